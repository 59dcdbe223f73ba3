import Derived.Test.YtjdlceelbnaneaaWg3
import Derived.Test.YtjdlceelbnaneaaW3FitR
import Derived.Test.YtjdlceelbnaneaaWg2
import Derived.Test.YtjdlceelbnaneaaWg4
set_option linter.unusedSimpArgs false
set_option linter.unusedVariables false
namespace Go.Ix
def rrS(f x y:Mp)(r:Int):Int:=if pr f x y≠0 then 3 else if x.ln-f.ln≠0\/x.sm-f.sm≠0 then(if 2 > r then 2 else r)else r
def rrI(f x:Mp):Int->List Mp->Int
 |r,[]=>r
 |r,y::l=>rrI f x (rrS f x y r) l
def rrO(f:Mp)(l:List Mp):Int->List Mp->Int
 |r,[]=>r
 |r,x::s=>rrO f l (rrI f x r l) s
theorem at_iff{f x:Mp}:f.at x↔¬(x.ln-f.ln≠0\/x.sm-f.sm≠0):=by unfold Mp.at;omega
theorem rrI_0{f x:Mp}(h:f.at x):∀(l:List Mp) (r:Int),rrI f x r l=r
 |[],_=>rfl
 |y::l,r=>by
  rw[rrI,rrS,xk9 (by rw[pr_at h];omega),xk9 (at_iff.mp h)]
  exact rrI_0 h l r
theorem rrI_3(f x:Mp):∀l:List Mp,rrI f x 3 l=3
 |[]=>rfl
 |y::l=>by
  have:rrS f x y 3=3:=by unfold rrS;split<;>(try split)<;>rfl
  rw[rrI,this];exact rrI_3 f x l
theorem rrI_hit{f x:Mp}:∀{l:List Mp} (r:Int),(∃y∈l,pr f x y≠0)->rrI f x r l=3
 |[],_,h=>by obtain⟨y,h,-⟩:=h;cases h
 |z::l,r,h=>by
  rw[rrI]
  by_cases c:pr f x z=0
  .obtain⟨y,hy,hp⟩:=h
   rcases xkh.mp hy with rfl|hy
   .exact absurd c hp
   .exact rrI_hit _ ⟨y,hy,hp⟩
  .rw[rrS,xk8 c];exact rrI_3 f x l
theorem rrI_no{f x:Mp}:∀{l:List Mp} {r:Int},(∀y∈l,pr f x y=0)->1<=r->r<=2->r<=rrI f x r l/\rrI f x r l<=2/\(¬f.at x->l≠[]->rrI f x r l=2)
 |[],r,_,h1,h2=>⟨xm6 _,h2,λ_ h=>absurd rfl h⟩
 |z::l,r,h,h1,h2=>by
  have hz:=h z (xkg ..)
  have e:rrS f x z r=if f.at x then r else 2:=by
   unfold rrS
   rw[xk9 (by rw[hz];omega)]
   by_cases c:f.at x
   .rw[xk9 (at_iff.mp c),xk8 c]
   .rw[xk8 (by rw[at_iff]at c;exact Decidable.of_not_not c),xk9 c]
    split<;>omega
  rw[rrI,e]
  by_cases c:f.at x
  .rw[xk8 c]
   obtain⟨a,b,-⟩:=rrI_no (l:=l) (r:=r) (λy hy=>h y (xkf _ hy)) h1 h2
   exact⟨a,b,λh=>absurd c h⟩
  .rw[xk9 c]
   obtain⟨a,b,-⟩:=rrI_no (l:=l) (r:=2) (λy hy=>h y (xkf _ hy)) (by omega) (by omega)
   exact⟨by omega,b,λ_ _=>by omega⟩
theorem rrO_3(f:Mp)(l:List Mp):∀s:List Mp,rrO f l 3 s=3
 |[]=>rfl
 |x::s=>by rw[rrO,rrI_3];exact rrO_3 f l s
theorem rrO_hit{f:Mp}{l:List Mp}:∀{s:List Mp} (r:Int),(∃x∈s,∃y∈l,pr f x y≠0)->rrO f l r s=3
 |[],_,h=>by obtain⟨x,h,-⟩:=h;cases h
 |z::s,r,h=>by
  rw[rrO]
  by_cases c:∃y∈l,pr f z y≠0
  .rw[rrI_hit r c];exact rrO_3 f l s
  .obtain⟨x,hx,hy⟩:=h
   rcases xkh.mp hx with rfl|hx
   .exact absurd hy c
   .exact rrO_hit _ ⟨x,hx,hy⟩
theorem rrO_no{f:Mp}{l:List Mp}(hl:l≠[]):∀{s:List Mp} {r:Int},(∀x∈s,∀y∈l,pr f x y=0)->1<=r->r<=2->r<=rrO f l r s/\rrO f l r s<=2/\((∃x∈s,¬f.at x)->rrO f l r s=2)
 |[],r,_,h1,h2=>⟨xm6 _,h2,λh=>by obtain⟨x,h,-⟩:=h;cases h⟩
 |z::s,r,h,h1,h2=>by
  obtain⟨a,b,c⟩:=rrI_no (f:=f) (x:=z) (l:=l) (r:=r) (h z (xkg ..)) h1 h2
  obtain⟨a2,b2,c2⟩:=rrO_no hl (s:=s) (r:=rrI f z r l) (λx hx=>h x (xkf _ hx)) (by omega) b
  rw[rrO]
  refine⟨by omega,b2,λhx=>?_⟩
  obtain⟨x,hx,hn⟩:=hx
  rcases xkh.mp hx with rfl|hx
  .have:=c hn hl;omega
  .exact c2 ⟨x,hx,hn⟩
theorem rrO_at{f:Mp}{l:List Mp}:∀{s:List Mp} (r:Int),(∀x∈s,f.at x)->rrO f l r s=r
 |[],_,_=>rfl
 |x::s,r,h=>by
  rw[rrO,rrI_0 (h x (xkg ..))]
  exact rrO_at r λy hy=>h y (xkf _ hy)
theorem pr_col{f p x y:Mp}(hp:¬f.at p)(h1:pr f p x=0)(h2:pr f p y=0):pr f x y=0:=by
 unfold pr at *
 have e1:(p.ln-f.ln)*((x.ln-f.ln)*(y.sm-f.sm)-(x.sm-f.sm)*(y.ln-f.ln))=(x.ln-f.ln)*((p.ln-f.ln)*(y.sm-f.sm)-(p.sm-f.sm)*(y.ln-f.ln))-(y.ln-f.ln)*((p.ln-f.ln)*(x.sm-f.sm)-(p.sm-f.sm)*(x.ln-f.ln)):=by grind
 have e2:(p.sm-f.sm)*((x.ln-f.ln)*(y.sm-f.sm)-(x.sm-f.sm)*(y.ln-f.ln))=(x.sm-f.sm)*((p.ln-f.ln)*(y.sm-f.sm)-(p.sm-f.sm)*(y.ln-f.ln))-(y.sm-f.sm)*((p.ln-f.ln)*(x.sm-f.sm)-(p.sm-f.sm)*(x.ln-f.ln)):=by grind
 rw[h1,h2]at e1 e2
 simp only[Int.mul_zero,Int.sub_zero]at e1 e2
 have:p.ln-f.ln≠0\/p.sm-f.sm≠0:=by unfold Mp.at at hp;omega
 rcases this with c|c
 .exact(Int.mul_eq_zero.mp e1).resolve_left c
 .exact(Int.mul_eq_zero.mp e2).resolve_left c
theorem rr_rk(f:Mp)(l:List Mp):rrO f (f::l) 1 (f::l)=rkM (f::l):=by
 rcases rkM_ok f l with ⟨h1,h2⟩|⟨p,hp,h3,h1,h2⟩|⟨p,y,h1,h2,h3,h4⟩
 .rw[h1];exact rrO_at 1 h2
 .rw[h1]
  exact(rrO_no (by simp) (λx hx y hy=>pr_col h3 (h2 x hx) (h2 y hy)) (by omega) (by omega)).2.2 ⟨p,hp,h3⟩
 .rw[h3]
  have hs:=h1.subset
  exact rrO_hit 1 ⟨p,hs (by simp),y,hs (by simp),h4⟩
def wv(p q:Int):Int:=if q > p then q else p
def wvA(f:Aff)(x:Mp):Int:=wv ((x9l f x).natAbs:Int) ((x9m f x).natAbs:Int)
def wM(f:Aff):Nat->Int×Int->List Mp->Int×Int
 |_,s,[]=>s
 |k,s,x::r=>wM f (k+1) (if wvA f x > s.2 then((k:Int),wvA f x)else s) r
theorem wvA_nn(f:Aff)(x:Mp):0<=wvA f x:=by
 unfold wvA wv
 split<;>omega
theorem wM_mono(f:Aff):∀(l:List Mp) (k:Nat) (s:Int×Int),s.2<=(wM f k s l).2
 |[],_,_=>xm6 _
 |x::r,k,s=>by
  rw[wM]
  refine Int.le_trans ?_ (wM_mono f r (k+1) _)
  split
  .rename_i h;simp only;omega
  .exact xm6 _
theorem wM_pos(f:Aff){l:List Mp}(h:l≠[]):0<=(wM f 0 (0,-1) l).2:=by
 cases l with
 |nil=>exact absurd rfl h
 |cons x r=>
  rw[wM]
  have:=wvA_nn f x
  rw[xk8 (by show wvA f x > -1;omega)]
  exact Int.le_trans this (wM_mono f r _ _)
open Go.Proofs
attribute [local simp high] rd_5
variable{a:AV}{l:List Mp}
theorem part3(w0 w1 w2:Int):∀o∈[0,1,2],x7t Try.prog (part xac #[.int .i64 w0,.int .i64 w1,.int .i64 w2] o)=some (.int .i64 ([w0,w1,w2].getD o 0)):=by
 intro o ho
 simp only[xkh,List.not_mem_nil,or_false]at ho
 rcases ho with rfl|rfl|rfl<;>kernel_rfl
theorem eqArr3{t:TypeId}(hu:Try.prog.underlying t=some (.array 3 xac))(k:Nat)(x0 x1 x2 y0 y1 y2:Int) :
 x7t Try.prog (Op.equalIn (k+1+1) t (.agg #[.int .i64 x0,.int .i64 x1,.int .i64 x2]) (.agg #[.int .i64 y0,.int .i64 y1,.int .i64 y2]))=some (decide (x0=y0/\x1=y1/\x2=y2)):=by
 have hz:x7t Try.prog (sizeOf xac)=some 1:=by kernel_rfl
 have pa:=part3 x0 x1 x2
 have pb:=part3 y0 y1 y2
 have pa0:=pa 0 (by simp)
 have pa1:=pa 1 (by simp)
 have pa2:=pa 2 (by simp)
 have pb0:=pb 0 (by simp)
 have pb1:=pb 1 (by simp)
 have pb2:=pb 2 (by simp)
 simp only[List.getD_cons_zero,List.getD_cons_succ]at pa0 pa1 pa2 pb0 pb1 pb2
 rw[Op.equalIn]
 simp only[x8t,xf6 hu,x8a,hz]
 simp only[Std.Legacy.Range.forIn_eq_forIn_range',Std.Legacy.Range.size,Nat.sub_zero,Nat.add_sub_cancel,Nat.div_one,List.range'_succ,List.range'_zero,List.forIn_cons,List.forIn_nil,x8t,xm0,xlm,Nat.one_mul,Nat.mul_one]
 simp only[Nat.reduceAdd,pa0,pa1,pa2,pb0,pb1,pb2,x8a,xf7 _ _ _ _ _ _ xf8]
 have ie:∀x y:Int,x7t Try.prog (Op.equalIn (k+1) xac (.int .i64 x) (.int .i64 y))=some (x == y):=λx y=>xf7 _ _ _ _ _ _ xf8
 by_cases h0:x0=y0
 .subst h0
  by_cases h1:x1=y1
  .subst h1
   by_cases h2:x2=y2
   .subst h2
    simp[xab,x8t,pa1,pa2,ie]
   .simp[h2,xab,x8t,pa1,pa2,pb1,pb2,ie]
  .simp[h1,xab,x8t,pa1,pb1,ie]
 .simp[h0,xab,x8t]
theorem ne_row3(X Y:Operand)(x y z w:Int):sBin Try.prog .neq x28 X Y (.agg [I 1,I x,I y]) (.agg [I 1,I z,I w])=some (B (!decide (x=z/\y=w))):=by
 have h:=eqArr3 (t:=x28) (by kernel_rfl) 9998 1 x y 1 z w
 have h2:=xj7 (x:=X) (y:=Y) (xs:=[.int .i64 1,.int .i64 x,.int .i64 y]) (ys:=[.int .i64 1,.int .i64 z,.int .i64 w]) (t:=x28) (by kernel_rfl) h ⟨[I 1,I x,I y],rfl⟩ [I 1,I x,I y] [I 1,I z,I w] rfl rfl
 simpa using h2
theorem w_cross3(k:Nat){fl fs pl ps:Int}(h1:bd fl 63)(h2:bd fs 63)(h3:bd pl 63)(h4:bd ps 63)(m:Mem):x7s (x7q (k+1)) x5n [.agg [I 1,I fl,I fs],.agg [I 1,I pl,I ps]] m=some (.agg [I (fl*ps-fs*pl),I (fs-ps),I (pl-fl)],m):=by
 have h:=e_cross3 k 1 fl fs 1 pl ps
 have c1:co2 fl ps fs pl=fl*ps-fs*pl:=by
  have b:=(h1.mul h4).sub (h2.mul h3)
  exact xdr (cg_s (cg_m (.refl fl) (.refl ps)) (cg_m (.refl fs) (.refl pl))) (b.mono (by omega)) |> λe=>by
   unfold co2 sW2 at *
   have:=(xbi fl ps fs pl)
   exact xdr ((cg_m (.refl fl) (.refl ps)).sub (cg_m (.refl fs) (.refl pl))) (b.mono (by omega))
 have c2:co2 fs 1 1 ps=fs-ps:=by
  unfold co2 sW2
  exact xdr (((cg_m (.refl fs) (.refl 1)).sub (cg_m (.refl 1) (.refl ps))).trans (by omega)) (by unfold bd at *;omega)
 have c3:co2 1 pl fl 1=pl-fl:=by
  unfold co2 sW2
  exact xdr (((cg_m (.refl 1) (.refl pl)).sub (cg_m (.refl fl) (.refl 1))).trans (by omega)) (by unfold bd at *;omega)
 rw[c1,c2,c3]at h
 exact x87 rfl (x9d h) m
theorem w_dot3(k:Nat){x y z pl ps:Int}(h1:bd x 7938)(h2:bd y 63)(h3:bd z 63)(h4:bd pl 63)(h5:bd ps 63)(m:Mem):x7s (x7q (k+1)) x5o [.agg [I x,I y,I z],.agg [I 1,I pl,I ps]] m=some (I (x+y*pl+z*ps),m):=by
 have h:=e_dot3 k x y z 1 pl ps
 have e:dotW x y z 1 pl ps=x+y*pl+z*ps:=by
  refine aW_of ((cg_a (cg_a (cg_m (.refl x) (.refl 1)) (cg_m (.refl y) (.refl pl))) (cg_m (.refl z) (.refl ps))).trans (by omega)) ?_
  exact((h1.add (h2.mul h4)).add (h3.mul h5)).mono (by omega)
 rw[e]at h
 exact x87 rfl (x9d h) m
theorem l_rk2(d:Nat)(hs:FHs)(ha:Pts a l)(hl:l.length<=1000)(hin:x85 l){x y z:Int}(hx:bd x 7938)(hy:bd y 63)(hz:bd z 63){f:List AV}:∀(suf:List Mp) (k j:Nat) (m:Mem) (fc:Nat),l.drop k=suf->suf.length<j->m.get (0,15,4)=some (.row [I x,I y,I z] 0 false) ->
 ∃m',xq (x7q (d+1)) hs 0 j (.ptr (0,13,3) 0 0) (.ptr (0,15,4) 0 0) (I 2) a (I l.length) (I k) m fc=some (I (rk2 x y z suf),m'):=by
 intro suf
 induction suf with
 |nil=>
  intro k j m fc hd hj h4
  obtain⟨j,rfl⟩:∃i,j=i+1:=⟨j-1,by simp at hj;omega⟩
  have hk:¬((k:Int)<(l.length:Int)):=by have:=xlj.mp hd;omega
  simp only[xq]
  unfold x1q x3m
  simp[hk,rk2]
 |cons e r ih=>
  intro k j m fc hd hj h4
  obtain⟨j,rfl⟩:∃i,j=i+1:=⟨j-1,by simp at hj;omega⟩
  obtain⟨hk,he,hd⟩:=xa9 hd
  have hk':(k:Int)<(l.length:Int):=by omega
  have ix:=ha.ix Mp.len hk
  have ld:=xc1 (m:=m) Mp.len (by omega) hk
  rw[he]at ld
  have hp:=hin e (he▸xky hk)
  have dt:=w_dot3 d hx hy hz hp.ln hp.sm
  obtain⟨M,hM⟩:∃M:Mem,M=((((m.new (0,fc+1+2,7) (.row [I 0,I 0,I 0,I 0,I 0] 0 false)).set (0,fc+1+2,7) (.row [I e.ln,I e.sm,I e.b0,I e.b1,I e.sc] 0 false)).new (0,fc+1+9,8) (.row [I 0,I 0,I 0] 0 false)).set (0,fc+1+9,8) (.row [I 1,I e.ln,I e.sm] 0 false)):=⟨_,rfl⟩
  have g4:M.get (0,15,4)=some (.row [I x,I y,I z] 0 false):=by rw[hM];simp[h4]
  have g8:M.get (0,fc+1+9,8)=some (.row [I 1,I e.ln,I e.sm] 0 false):=by rw[hM];simp
  simp only[xq]
  unfold x1q x3n x26
  simp only[x8a,x92,hk',xl4,x96,ix,ld]
  simp[Mp.c,z_pt,xdv,xdw]
  rw[<-hM]
  rw[rk2]
  simp[h4,g4,g8,dt]
  by_cases c:x+y*e.ln+z*e.sm=0
  .obtain⟨m',h'⟩:=ih (k+1) j M (fc+1+28+2) hd (by simp at hj;omega) g4
   simp(disch:=omega) [c,x8d]
   exact⟨m',by simpa using h'⟩
  .simp[c]
theorem l_rk1(d:Nat)(hs:FHs)(ha:Pts a l)(hl:l.length<=1000)(hin:x85 l){f:Mp}(hf:PtIn f):∀(suf:List Mp) (k j:Nat) (m:Mem) (fc:Nat),l.drop k=suf->suf.length<j->m.get (0,13,3)=some (.row [I 1,I f.ln,I f.sm] 0 false)->m.get (0,15,4)=some (.row [I 0,I 0,I 0] 0 false) ->
 ∃m',xq (x7q (d+1)) hs 0 j (.ptr (0,13,3) 0 0) (.ptr (0,15,4) 0 0) (I 1) a (I l.length) (I k) m fc=some (I (rk1 f suf),m'):=by
 intro suf
 induction suf with
 |nil=>
  intro k j m fc hd hj h3 h4
  obtain⟨j,rfl⟩:∃i,j=i+1:=⟨j-1,by simp at hj;omega⟩
  have hk:¬((k:Int)<(l.length:Int)):=by have:=xlj.mp hd;omega
  simp only[xq]
  unfold x1q x3m
  simp[hk,rk1]
 |cons e r ih=>
  intro k j m fc hd hj h3 h4
  obtain⟨j,rfl⟩:∃i,j=i+1:=⟨j-1,by simp at hj;omega⟩
  obtain⟨hk,he,hd⟩:=xa9 hd
  have hk':(k:Int)<(l.length:Int):=by omega
  have ix:=ha.ix Mp.len hk
  have ld:=xc1 (m:=m) Mp.len (by omega) hk
  rw[he]at ld
  have hp:=hin e (he▸xky hk)
  have cr:=w_cross3 d hf.ln hf.sm hp.ln hp.sm
  obtain⟨M,hM⟩:∃M:Mem,M=((((m.new (0,fc+1+2,7) (.row [I 0,I 0,I 0,I 0,I 0] 0 false)).set (0,fc+1+2,7) (.row [I e.ln,I e.sm,I e.b0,I e.b1,I e.sc] 0 false)).new (0,fc+1+9,8) (.row [I 0,I 0,I 0] 0 false)).set (0,fc+1+9,8) (.row [I 1,I e.ln,I e.sm] 0 false)):=⟨_,rfl⟩
  have g3:M.get (0,13,3)=some (.row [I 1,I f.ln,I f.sm] 0 false):=by rw[hM];simp[h3]
  have g4:M.get (0,15,4)=some (.row [I 0,I 0,I 0] 0 false):=by rw[hM];simp[h4]
  have g8:M.get (0,fc+1+9,8)=some (.row [I 1,I e.ln,I e.sm] 0 false):=by rw[hM];simp
  simp only[xq]
  unfold x1q x3n x26
  simp only[x8a,x92,hk',xl4,x96,ix,ld]
  simp[Mp.c,z_pt,xdv,xdw]
  rw[<-hM]
  rw[rk1]
  simp[h3,g3,g8,ne_row3]
  by_cases c:e.ln=f.ln/\e.sm=f.sm
  .obtain⟨m',h'⟩:=ih (k+1) j M (fc+1+28+2) hd (by simp at hj;omega) g3 g4
   simp(disch:=omega) [c,x8d]
   exact⟨m',by simpa using h'⟩
  .have hx:bd (f.ln*e.sm-f.sm*e.ln) 7938:=((hf.ln.mul hp.sm).sub (hf.sm.mul hp.ln)).mono (by omega)
   have l0:=hf.l0;have l1:=hf.l1;have s0:=hf.s0;have s1:=hf.s1
   have l0':=hp.l0;have l1':=hp.l1;have s0':=hp.s0;have s1':=hp.s1
   obtain⟨m',h'⟩:=l_rk2 d hs ha hl hin (x:=f.ln*e.sm-f.sm*e.ln) (y:=f.sm-e.sm) (z:=e.ln-f.ln) hx (by unfold bd;omega) (by unfold bd;omega) (f:=[]) r (k+1) j (M.set (0,15,4) (.row [I (f.ln*e.sm-f.sm*e.ln),I (f.sm-e.sm),I (e.ln-f.ln)] 0 false)) (fc+1+24+2) hd (by simp at hj;omega) (by simp)
   have hc:(!decide (e.ln=f.ln)||!decide (e.sm=f.sm))=true:=by
    by_cases c1:e.ln=f.ln<;>by_cases c2:e.sm=f.sm<;>simp[c1,c2]at c ⊢
   simp(disch:=omega) [c,hc,g3,g4,g8,cr,x8d]
   exact⟨m',by simpa using h'⟩
theorem xfd(d:Nat)(ha:Pts a l)(hl:l.length<=1000)(hin:x85 l)(m:Mem):x7s (x7q (d+2)) x12 [a] m=some (I (rkM l),m):=by
 refine x87 (by simp[ha.still]) ?_ m
 rw[x6m]
 unfold x4h x3p
 have hlen:sLen Try.prog x1r a=some (I l.length):=ha.len xhk
 cases l with
 |nil=>
  simp[mem0,hlen]
  exact RetF.st rfl rfl
 |cons f r=>
  have ix:=ha.ix Mp.len (k:=0) (by simp)
  rw[xa8 (by simp),xlf]at ix
  simp only[List.getElem_cons_zero,Mp.c,xln]at ix
  have hf:=hin f (xkg ..)
  have hne:¬((r.length:Int)+1=0):=by omega
  rw[show I ((0:Nat):Int)=I 0 from rfl]at ix
  simp[mem0,hlen,hne,ix,xdv,xdw,tR,x8y,disj,cAp]
  unfold x5p
  obtain⟨m',h'⟩:=l_rk1 d [] ha hl hin hf (f::r) 0 NN ((((⟨[],1⟩:Mem).new (0,13,3) (.row [I 0,I 0,I 0] 0 false)).set (0,13,3) (.row [I 1,I f.ln,I f.sm] 0 false)).new (0,15,4) (.row [I 0,I 0,I 0] 0 false)) (17+3) rfl (by rw[x8k];simp at hl ⊢;omega) (by simp) (by simp)
  rw[show I ((0:Nat):Int)=I 0 from rfl]at h'
  simp only[xkn,Int.natCast_add,Int.natCast_one]at h'
  simp[hlen,h']
  exact RetF.st rfl rfl
theorem w_RankOf(d:Nat)(ha:Pts a l)(hl:l.length<=1000)(m:Mem):x7s (x7q (d+6)) x1b [a] m=some (.tup [I (if(x80 l).2=0 then rkM l else 0),I (x80 l).2],m):=by
 refine x87 (by simp[ha.still]) ?_ m
 rw[x6c]
 unfold x47 x2v
 simp[mem0,xdu d ha hl]
 by_cases c:(x80 l).2=0
 .obtain⟨-,-,hin⟩:=xc5 c
  simp[c,xfd (d+3) ha hl hin]
  exact RetF.tup rfl rfl
 .simp[c]
  exact RetF.tup rfl rfl
def mn(x y:Int):Int:=if y<x then y else x
def x93(u:List Int)(p:Pq):List Int:=u.map λx=>if x=at0 u p.a.toNat\/x=at0 u p.b.toNat then mn (at0 u p.a.toNat) (at0 u p.b.toNat)else x
def joinsM(u:List Int)(l:List Pq):List Int:=l.foldl x93 u
def freshM(n:Nat):List Int:=(List.range n).map λ(i:Nat)=>(i:Int)
def PqIn(n:Nat)(p:Pq):Prop:=0<=p.a/\p.a<p.b/\p.b<n
structure Lab (n:Nat) (u:List Int):Prop where
 len:u.length=n
 ok:∀v,v<n->0<=at0 u v/\at0 u v<=v/\at0 u (at0 u v).toNat=at0 u v
theorem xhp(u:List Int)(p:Pq):(x93 u p).length=u.length:=by unfold x93;simp
theorem xbl{u:List Int}{p:Pq}{v:Nat}(h:v<u.length):at0 (x93 u p) v=if at0 u v=at0 u p.a.toNat\/at0 u v=at0 u p.b.toNat then mn (at0 u p.a.toNat) (at0 u p.b.toNat)else at0 u v:=by
 rw[xaa (by rw[xhp];exact h),xaa h]
 unfold x93
 rw[List.getElem_map]
theorem mn_or(a b:Int):mn a b=a/\a<=b\/mn a b=b/\b<a:=by
 unfold mn
 split
 .right;exact⟨rfl,by assumption⟩
 .left;exact⟨rfl,by omega⟩
theorem Lab.fresh(n:Nat):Lab n (freshM n):=by
 refine⟨by simp[freshM],λv hv=>?_⟩
 have:∀w,w<n->at0 (freshM n) w=w:=λw hw=>by
  rw[xaa (by simpa[freshM]using hw)]
  simp[freshM]
 rw[this v hv]
 refine⟨by omega,by omega,?_⟩
 rw[Int.toNat_natCast,this v hv]
theorem Lab.get_fresh{n v:Nat}(h:v<n):at0 (freshM n) v=v:=by
 rw[xaa (by simpa[freshM]using h)]
 simp[freshM]
theorem Lab.lt{n:Nat}{u:List Int}(h:Lab n u){v:Nat}(hv:v<n):(at0 u v).toNat<n:=by
 have:=h.ok v hv
 omega
theorem Lab.join{n:Nat}{u:List Int}(h:Lab n u){p:Pq}(hp:PqIn n p):Lab n (x93 u p):=by
 obtain⟨h0,h1,h2⟩:=hp
 have ea:=h.ok p.a.toNat (by omega)
 have eb:=h.ok p.b.toNat (by omega)
 refine⟨by rw[xhp];exact h.len,λv hv=>?_⟩
 have ev:=h.ok v hv
 rw[xbl (by rw[h.len];exact hv)]
 obtain⟨m,hm⟩:∃m,m=mn (at0 u p.a.toNat) (at0 u p.b.toNat):=⟨_,rfl⟩
 have hmo:=mn_or (at0 u p.a.toNat) (at0 u p.b.toNat)
 rw[<-hm]at hmo ⊢
 by_cases c:at0 u v=at0 u p.a.toNat\/at0 u v=at0 u p.b.toNat
 .rw[xk8 c]
  refine⟨by omega,by omega,?_⟩
  rw[xbl (by rw[h.len];omega),<-hm]
  have:at0 u m.toNat=at0 u p.a.toNat\/at0 u m.toNat=at0 u p.b.toNat:=by
   rcases hmo with ⟨e,-⟩|⟨e,-⟩
   .rw[e,ea.2.2];exact Or.inl rfl
   .rw[e,eb.2.2];exact Or.inr rfl
  rw[xk8 this]
 .rw[xk9 c]
  refine⟨ev.1,ev.2.1,?_⟩
  rw[xbl (by rw[h.len];omega),ev.2.2,xk9 c]
theorem Lab.joins{n:Nat}:∀{l:List Pq} {u:List Int},Lab n u->(∀p∈l,PqIn n p)->Lab n (joinsM u l)
 |[],_,h,_=>h
 |p::l,u,h,hp=>Lab.joins (l:=l) (h.join (hp p (xkg ..))) λq hq=>hp q (xkf _ hq)
def Sm(u:List Int)(v w:Nat):Prop:=at0 u v=at0 u w
theorem join_aux(x y a b m:Int)(hmo:m=a/\a<=b\/m=b/\b<a):((if x=a\/x=b then m else x)=(if y=a\/y=b then m else y))↔(x=y\/(x=a/\y=b)\/(x=b/\y=a)):=by
 by_cases c1:x=a\/x=b<;>by_cases c2:y=a\/y=b<;>(first|rw[xk8 c1]|rw[xk9 c1])<;>(first|rw[xk8 c2]|rw[xk9 c2])<;>omega
theorem xfe{n:Nat}{u:List Int}{p:Pq}(h:Lab n u){v w:Nat}(hv:v<n)(hw:w<n) :
 Sm (x93 u p) v w↔Sm u v w\/(Sm u v p.a.toNat/\Sm u w p.b.toNat)\/(Sm u v p.b.toNat/\Sm u w p.a.toNat):=by
 unfold Sm
 rw[xbl (by rw[h.len];exact hv),xbl (by rw[h.len];exact hw)]
 exact join_aux _ _ _ _ _ (mn_or _ _)
theorem join_mono{n:Nat}{u:List Int}{p:Pq}(h:Lab n u){v w:Nat}(hv:v<n)(hw:w<n)(e:Sm u v w):Sm (x93 u p) v w:=(xfe h hv hw).mpr (Or.inl e)
theorem xhq{n:Nat}:∀{l:List Pq} {u:List Int},Lab n u->(∀p∈l,PqIn n p)->∀{v w:Nat},v<n->w<n->Sm u v w->Sm (joinsM u l) v w
 |[],_,_,_,_,_,_,_,e=>e
 |p::l,u,h,hp,v,w,hv,hw,e=>xhq (l:=l) (h.join (hp p (xkg ..))) (λq hq=>hp q (xkf _ hq)) hv hw (join_mono h hv hw e)
theorem join_ends{n:Nat}{u:List Int}{p:Pq}(h:Lab n u)(hp:PqIn n p):Sm (x93 u p) p.a.toNat p.b.toNat:=by
 obtain⟨h0,h1,h2⟩:=hp
 exact(xfe h (by omega) (by omega)).mpr (Or.inr (Or.inl ⟨rfl,rfl⟩))
theorem xct{n:Nat}:∀{l:List Pq} {u:List Int},Lab n u->(∀p∈l,PqIn n p)->∀p∈l,Sm (joinsM u l) p.a.toNat p.b.toNat
 |[],_,_,_,p,hp=>by cases hp
 |q::l,u,h,hp,p,hm=>by
  have hq:=hp q (xkg ..)
  have hl:∀p∈l,PqIn n p:=λp h=>hp p (xkf _ h)
  rcases xkh.mp hm with rfl|hm
  .have:PqIn n p:=hq
   obtain⟨h0,h1,h2⟩:=hq
   exact xhq (l:=l) (h.join this) hl (by omega) (by omega) (join_ends h this)
  .exact xct (h.join hq) hl p hm
theorem xff{n:Nat}{R:Nat->Nat->Prop}(hs:∀{a b},R a b->R b a)(ht:∀{a b c},R a b->R b c->R a c):∀{l:List Pq} {u:List Int},Lab n u->(∀p∈l,PqIn n p)->(∀p∈l,R p.a.toNat p.b.toNat)->(∀v w,v<n->w<n->Sm u v w->R v w)->∀v w,v<n->w<n->Sm (joinsM u l) v w->R v w
 |[],_,_,_,_,h=>h
 |p::l,u,h,hp,hR,hu=>by
  have hq:=hp p (xkg ..)
  refine xff (R:=R) hs ht (l:=l) (h.join hq) (λq hq=>hp q (xkf _ hq)) (λq hq=>hR q (xkf _ hq)) λv w hv hw e=>?_
  obtain⟨h0,h1,h2⟩:=hq
  have hr:=hR p (xkg ..)
  rcases(xfe h hv hw).mp e with e|⟨e1,e2⟩|⟨e1,e2⟩
  .exact hu v w hv hw e
  .exact ht (hu v _ hv (by omega) e1) (ht hr (hs (hu w _ hw (by omega) e2)))
  .exact ht (hu v _ hv (by omega) e1) (ht (hs hr) (hs (hu w _ hw (by omega) e2)))
theorem Lab.ext{n:Nat}{u t:List Int}(h:Lab n u)(k:Lab n t)(he:∀v w,v<n->w<n->(Sm u v w↔Sm t v w)):u=t:=by
 apply List.ext_getElem
 .rw[h.len,k.len]
 .intro v hv hv'
  rw[h.len]at hv
  rw[<-xaa,<-xaa]
  have a:=h.ok v hv
  have b:=k.ok v hv
  have e1:at0 t (at0 u v).toNat=at0 t v:=(he _ v (by omega) hv).mp (by unfold Sm;exact a.2.2)
  have e2:at0 u (at0 t v).toNat=at0 u v:=(he _ v (by omega) hv).mpr (by unfold Sm;exact b.2.2)
  have a2:=k.ok (at0 u v).toNat (by omega)
  have b2:=h.ok (at0 t v).toNat (by omega)
  omega
def Indep(u:List Int):List Pq->Prop
 |[]=>True
 |p::l=>¬Sm u p.a.toNat p.b.toNat/\Indep (x93 u p) l
theorem Indep.app{u:List Int}:∀{l k:List Pq} ,Indep u (l++k)↔Indep u l/\Indep (joinsM u l) k:=by
 intro l
 induction l generalizing u with
 |nil=>intro k;simp[Indep,joinsM]
 |cons p l ih=>
  intro k
  simp only[xln,Indep]
  rw[ih]
  simp[joinsM,and_assoc]
def x9n(n:Nat)(u:List Int):Nat:=((List.range n).filter λ(v:Nat)=>decide (at0 u v=(v:Int))).length
theorem count_ne{n:Nat}{p q:Nat->Bool}{w:Nat}(hw:w<n)(h1:p w=true)(h2:q w=false)(h:∀v,v<n->v≠w->p v=q v):((List.range n).filter p).length=((List.range n).filter q).length+1:=by
 induction n with
 |zero=>omega
 |succ n ih=>
  rw[List.range_succ,xne,xne,xlo,xlo]
  by_cases c:w=n
  .subst c
   have e:(List.range w).filter p=(List.range w).filter q:=by
    apply List.filter_congr
    intro v hv
    have:=xkr.mp hv
    exact h v (by omega) (by omega)
   rw[e]
   simp[h1,h2]
  .have:=ih (by omega) λv hv=>h v (by omega)
   have e:=h n (by omega) (by omega)
   simp only[List.filter_cons,e,List.filter_nil]
   omega
theorem xfg{n:Nat}{u:List Int}{p:Pq}(h:Lab n u)(hp:PqIn n p)(hne:¬Sm u p.a.toNat p.b.toNat):x9n n u=x9n n (x93 u p)+1:=by
 have hp':=hp
 obtain⟨h0,h1,h2⟩:=hp
 have ea:=h.ok p.a.toNat (by omega)
 have eb:=h.ok p.b.toNat (by omega)
 unfold Sm at hne
 have hmo:=mn_or (at0 u p.a.toNat) (at0 u p.b.toNat)
 obtain⟨w,hw⟩:∃w:Int,w=if at0 u p.b.toNat<at0 u p.a.toNat then at0 u p.a.toNat else at0 u p.b.toNat:=⟨_,rfl⟩
 have hwor:w=at0 u p.a.toNat/\at0 u p.b.toNat<at0 u p.a.toNat\/w=at0 u p.b.toNat/\at0 u p.a.toNat<at0 u p.b.toNat:=by
  rw[hw];split<;>omega
 unfold x9n
 refine count_ne (w:=w.toNat) (by omega) ?_ ?_ λv hv hne'=>?_
 .rw[xnj]
  rcases hwor with ⟨e,-⟩|⟨e,-⟩
  .rw[e,ea.2.2];omega
  .rw[e,eb.2.2];omega
 .rw[decide_eq_false_iff_not,xbl (by rw[h.len];omega)]
  have:at0 u w.toNat=w:=by
   rcases hwor with ⟨e,-⟩|⟨e,-⟩
   .rw[e];exact ea.2.2
   .rw[e];exact eb.2.2
  rw[this,xk8 (by omega)]
  omega
 .rw[Bool.eq_iff_iff,xnj,xnj,xbl (by rw[h.len];omega)]
  have ev:=h.ok v hv
  by_cases c:at0 u v=at0 u p.a.toNat\/at0 u v=at0 u p.b.toNat
  .rw[xk8 c]
   constructor
   .intro e
    omega
   .intro e
    rcases hmo with ⟨q,-⟩|⟨q,-⟩
    .rw[q]at e;rw[e]at ea;have:=ea.2.2;simpa using this
    .rw[q]at e;rw[e]at eb;have:=eb.2.2;simpa using this
  .rw[xk9 c]
theorem xdy{n:Nat}:∀{l:List Pq} {u:List Int},Lab n u->(∀p∈l,PqIn n p)->Indep u l->x9n n u=x9n n (joinsM u l)+l.length
 |[],_,_,_,_=>rfl
 |p::l,u,h,hp,hi=>by
  have hq:=hp p (xkg ..)
  have:=xdy (h.join hq) (λq hq=>hp q (xkf _ hq)) hi.2
  have h1:=xfg h hq hi.1
  have e:joinsM u (p::l)=joinsM (x93 u p) l:=rfl
  rw[e,xkn]
  omega
theorem xhr(n:Nat):x9n n (freshM n)=n:=by
 unfold x9n
 have:(List.range n).filter (λ(v:Nat)=>decide (at0 (freshM n) v=(v:Int)))=List.range n:=by
  rw[xmv]
  intro v hv
  rw[Lab.get_fresh (xkr.mp hv)]
  simp
 rw[this,List.length_range]
variable{P:List Pq}
def prs(P:List Pq)(F:List Int):List Pq:=F.map (prAt P)
structure For (n:Nat) (P:List Pq) (F:List Int):Prop where
 rng:∀i∈F,0<=i/\i<P.length
 nod:F.Nodup
 ind:Indep (freshM n) (prs P F)
theorem xcu{n:Nat}(hP:∀p∈P,PqIn n p){i:Int}(h:0<=i/\i<P.length):PqIn n (prAt P i):=by
 unfold prAt
 have:i.toNat<P.length:=by omega
 rw[xkt,xkp this]
 exact hP _ (xky this)
theorem x9x{n:Nat}(hP:∀p∈P,PqIn n p){F:List Int}(h:∀i∈F,0<=i/\i<P.length):∀p∈prs P F,PqIn n p:=λp hp=>by
 obtain⟨i,hi,rfl⟩:=xl1.mp hp
 exact xcu hP (h i hi)
theorem For.take{n:Nat}{F G:List Int}(h:For n P (F++G)):For n P F:=by
 refine⟨λi hi=>h.rng i (xm4 _ hi),(xm5.mp h.nod).1,?_⟩
 have:=h.ind
 unfold prs at this
 rw[xmx]at this
 exact(Indep.app.mp this).1
theorem For.cut{n:Nat}(hP:∀p∈P,PqIn n p){F:List Int}(h:For n P F):Cut P F:=by
 have main:∀(k:Nat) (F:List Int),F.length=k->For n P F->Cut P F:=by
  intro k
  induction k with
  |zero=>intro F hl _ i hi;rw[xnd.mp hl]at hi;cases hi
  |succ k ih=>
   intro F hl h
   obtain⟨G,q,rfl⟩:∃G q,F=G++[q]:=by
    have hne:F≠[]:=by rintro rfl;simp at hl
    exact⟨F.dropLast,F.getLast hne,(List.dropLast_concat_getLast hne).symm⟩
   have hG:=h.take
   have hc:=ih G (by simpa using hl) hG
   have hq:=xcu hP (h.rng q (by simp))
   obtain⟨u,hu⟩:∃u,u=joinsM (freshM n) (prs P G):=⟨_,rfl⟩
   have hL:Lab n u:=by rw[hu];exact(Lab.fresh n).joins (x9x hP hG.rng)
   have hind:=h.ind
   unfold prs at hind
   rw[xmx]at hind
   have hne:¬Sm u (prAt P q).a.toNat (prAt P q).b.toNat:=by
    have:=(Indep.app.mp hind).2
    rw[show List.map (prAt P) [q]=[prAt P q]from rfl]at this
    rw[hu]
    exact this.1
   have hqG:q∉G:=λhm=>(xm5.mp h.nod).2.2 q hm q (by simp) rfl
   have hends:∀j∈G,Sm u (prAt P j).a.toNat (prAt P j).b.toNat:=λj hj=>by
    rw[hu]
    exact xct (Lab.fresh n) (x9x hP hG.rng) _ (xl1.mpr ⟨j,hj,rfl⟩)
   unfold Sm at hne hends
   intro i hi
   rcases xla.mp hi with hi|hi
   .obtain⟨s,h1,h2⟩:=hc i hi
    by_cases c:s (prAt P q).a=s (prAt P q).b
    .refine⟨s,h1,λj hj hji=>?_⟩
     rcases xla.mp hj with hj|hj
     .exact h2 j hj hji
     .simp at hj;subst hj;exact c
    .refine⟨λv=>if at0 u v.toNat=at0 u (prAt P q).b.toNat then !(s v)else s v,?_,λj hj hji=>?_⟩
     .have:=hends i hi
      simp only
      rw[this]
      split
      .simpa using h1
      .exact h1
     .simp only
      rcases xla.mp hj with hj|hj
      .have:=hends j hj
       rw[this,h2 j hj hji]
      .simp at hj;subst hj
       rw[xk9 hne,xk8 rfl]
       cases h3:s (prAt P j).a<;>cases h4:s (prAt P j).b<;>simp_all
   .simp at hi;subst hi
    refine⟨λv=>decide (at0 u v.toNat=at0 u (prAt P i).a.toNat),?_,λj hj hji=>?_⟩
    .simp[Ne.symm hne]
    .rcases xla.mp hj with hj|hj
     .simp only;rw[hends j hj]
     .simp at hj;exact absurd hj hji
 exact main _ F rfl h
theorem join_walk{n:Nat}(hP:∀p∈P,PqIn n p){F:List Int}(hr:∀i∈F,0<=i/\i<P.length):∀{v w:Nat},v<n->w<n->Sm (joinsM (freshM n) (prs P F)) v w->∃l,Wk P l v w/\AllF F l:=by
 intro v w hv hw hs
 let R:Nat->Nat->Prop:=λv w=>∃l,Wk P l v w/\AllF F l
 have hsym:∀{a b},R a b->R b a:=λ⟨l,h1,h2⟩=>by
  obtain⟨v,h3,h4⟩:=h1.back h2
  exact⟨v,h3,h4⟩
 have htr:∀{a b c},R a b->R b c->R a c:=λ⟨l,h1,h2⟩ ⟨k,h3,h4⟩=>⟨l++k,h1.app h3,h2.app h4⟩
 refine xff (R:=R) hsym htr (Lab.fresh n) (x9x hP hr) (λp hp=>?_) (λv w hv hw e=>?_) v w hv hw hs
 .obtain⟨i,hi,rfl⟩:=xl1.mp hp
  have hq:=xcu hP (hr i hi)
  obtain⟨h0,h1,h2⟩:=hq
  refine⟨[⟨i,1⟩],⟨?_,?_⟩,λx hx=>?_⟩
  .unfold frS;simp;omega
  .show toS P ⟨i,1⟩=_
   unfold toS;simp;omega
  .simp at hx;subst hx;exact⟨hi,Or.inl rfl⟩
 .unfold Sm at e
  rw[Lab.get_fresh hv,Lab.get_fresh hw]at e
  exact⟨[],by show(v:Int)=w;exact e,λ_ h=>by cases h⟩
theorem For.len{n:Nat}(hP:∀p∈P,PqIn n p){F:List Int}(h:For n P F):F.length<=n:=by
 have:=xdy (Lab.fresh n) (x9x hP h.rng) h.ind
 rw[xhr]at this
 have e:(prs P F).length=F.length:=by unfold prs;simp
 omega
end Go.Ix
