import Derived.Test.YtgediplphidhpaaGreatWg2
import Derived.Test.YtgediplphidhpaaGreatWg7
import Derived.Test.YtgediplphidhpaaGreatWg1
import Derived.Test.YtgediplphidhpaaGreatWg4
set_option linter.unusedSimpArgs false
set_option linter.unusedVariables false
namespace Go.Ix
def rrS(f x y:Mp)(r:Int):Int:=if pr f x y≠0 then 3 else if x.ln-f.ln≠0\/x.sm-f.sm≠0 then(if 2 > r then 2 else r)else r
def rrI(f x:Mp):Int->List Mp->Int
 |r,[]=>r
 |r,y::l=>rrI f x (rrS f x y r) l
def rrO(f:Mp)(l:List Mp):Int->List Mp->Int
 |r,[]=>r
 |r,x::s=>rrO f l (rrI f x r l) s
theorem at_iff{f x:Mp}:f.at x↔¬(x.ln-f.ln≠0\/x.sm-f.sm≠0):=by unfold Mp.at;omega
theorem rrI_0{f x:Mp}(h:f.at x):∀(l:List Mp) (r:Int),rrI f x r l=r
 |[],_=>rfl
 |y::l,r=>by
  rw[rrI,rrS,if_neg (by rw[pr_at h];omega),if_neg (at_iff.mp h)]
  exact rrI_0 h l r
theorem rrI_3(f x:Mp):∀l:List Mp,rrI f x 3 l=3
 |[]=>rfl
 |y::l=>by
  have:rrS f x y 3=3:=by unfold rrS;split<;>(try split)<;>rfl
  rw[rrI,this];exact rrI_3 f x l
theorem rrI_hit{f x:Mp}:∀{l:List Mp} (r:Int),(∃y∈l,pr f x y≠0)->rrI f x r l=3
 |[],_,h=>by obtain⟨y,h,-⟩:=h;cases h
 |z::l,r,h=>by
  rw[rrI]
  by_cases c:pr f x z=0
  .obtain⟨y,hy,hp⟩:=h
   rcases x19a.mp hy with rfl|hy
   .exact absurd c hp
   .exact rrI_hit _ ⟨y,hy,hp⟩
  .rw[rrS,if_pos c];exact rrI_3 f x l
theorem rrI_no{f x:Mp}:∀{l:List Mp} {r:Int},(∀y∈l,pr f x y=0)->1<=r->r<=2->r<=rrI f x r l/\rrI f x r l<=2/\(¬f.at x->l≠[]->rrI f x r l=2)
 |[],r,_,h1,h2=>⟨x1b6 _,h2,λ_ h=>absurd rfl h⟩
 |z::l,r,h,h1,h2=>by
  have hz:=h z (x199 ..)
  have e:rrS f x z r=if f.at x then r else 2:=by
   unfold rrS
   rw[if_neg (by rw[hz];omega)]
   by_cases c:f.at x
   .rw[if_neg (at_iff.mp c),if_pos c]
   .rw[if_pos (by rw[at_iff]at c;exact Decidable.of_not_not c),if_neg c]
    split<;>omega
  rw[rrI,e]
  by_cases c:f.at x
  .rw[if_pos c]
   obtain⟨a,b,-⟩:=rrI_no (l:=l) (r:=r) (λy hy=>h y (x198 _ hy)) h1 h2
   exact⟨a,b,λh=>absurd c h⟩
  .rw[if_neg c]
   obtain⟨a,b,-⟩:=rrI_no (l:=l) (r:=2) (λy hy=>h y (x198 _ hy)) (by omega) (by omega)
   exact⟨by omega,b,λ_ _=>by omega⟩
theorem rrO_3(f:Mp)(l:List Mp):∀s:List Mp,rrO f l 3 s=3
 |[]=>rfl
 |x::s=>by rw[rrO,rrI_3];exact rrO_3 f l s
theorem rrO_hit{f:Mp}{l:List Mp}:∀{s:List Mp} (r:Int),(∃x∈s,∃y∈l,pr f x y≠0)->rrO f l r s=3
 |[],_,h=>by obtain⟨x,h,-⟩:=h;cases h
 |z::s,r,h=>by
  rw[rrO]
  by_cases c:∃y∈l,pr f z y≠0
  .rw[rrI_hit r c];exact rrO_3 f l s
  .obtain⟨x,hx,hy⟩:=h
   rcases x19a.mp hx with rfl|hx
   .exact absurd hy c
   .exact rrO_hit _ ⟨x,hx,hy⟩
theorem rrO_no{f:Mp}{l:List Mp}(hl:l≠[]):∀{s:List Mp} {r:Int},(∀x∈s,∀y∈l,pr f x y=0)->1<=r->r<=2->r<=rrO f l r s/\rrO f l r s<=2/\((∃x∈s,¬f.at x)->rrO f l r s=2)
 |[],r,_,h1,h2=>⟨x1b6 _,h2,λh=>by obtain⟨x,h,-⟩:=h;cases h⟩
 |z::s,r,h,h1,h2=>by
  obtain⟨a,b,c⟩:=rrI_no (f:=f) (x:=z) (l:=l) (r:=r) (h z (x199 ..)) h1 h2
  obtain⟨a2,b2,c2⟩:=rrO_no hl (s:=s) (r:=rrI f z r l) (λx hx=>h x (x198 _ hx)) (by omega) b
  rw[rrO]
  refine⟨by omega,b2,λhx=>?_⟩
  obtain⟨x,hx,hn⟩:=hx
  rcases x19a.mp hx with rfl|hx
  .have:=c hn hl;omega
  .exact c2 ⟨x,hx,hn⟩
theorem rrO_at{f:Mp}{l:List Mp}:∀{s:List Mp} (r:Int),(∀x∈s,f.at x)->rrO f l r s=r
 |[],_,_=>rfl
 |x::s,r,h=>by
  rw[rrO,rrI_0 (h x (x199 ..))]
  exact rrO_at r λy hy=>h y (x198 _ hy)
theorem pr_col{f p x y:Mp}(hp:¬f.at p)(h1:pr f p x=0)(h2:pr f p y=0):pr f x y=0:=by
 unfold pr at *
 have e1:(p.ln-f.ln)*((x.ln-f.ln)*(y.sm-f.sm)-(x.sm-f.sm)*(y.ln-f.ln))=(x.ln-f.ln)*((p.ln-f.ln)*(y.sm-f.sm)-(p.sm-f.sm)*(y.ln-f.ln))-(y.ln-f.ln)*((p.ln-f.ln)*(x.sm-f.sm)-(p.sm-f.sm)*(x.ln-f.ln)):=by grind
 have e2:(p.sm-f.sm)*((x.ln-f.ln)*(y.sm-f.sm)-(x.sm-f.sm)*(y.ln-f.ln))=(x.sm-f.sm)*((p.ln-f.ln)*(y.sm-f.sm)-(p.sm-f.sm)*(y.ln-f.ln))-(y.sm-f.sm)*((p.ln-f.ln)*(x.sm-f.sm)-(p.sm-f.sm)*(x.ln-f.ln)):=by grind
 rw[h1,h2]at e1 e2
 simp only[x1cd,Int.sub_zero]at e1 e2
 have:p.ln-f.ln≠0\/p.sm-f.sm≠0:=by unfold Mp.at at hp;omega
 rcases this with c|c
 .exact(x1cb.mp e1).resolve_left c
 .exact(x1cb.mp e2).resolve_left c
theorem rr_rk(f:Mp)(l:List Mp):rrO f (f::l) 1 (f::l)=rkM (f::l):=by
 rcases rkM_ok f l with ⟨h1,h2⟩|⟨p,hp,h3,h1,h2⟩|⟨p,y,h1,h2,h3,h4⟩
 .rw[h1];exact rrO_at 1 h2
 .rw[h1]
  exact(rrO_no (by simp) (λx hx y hy=>pr_col h3 (h2 x hx) (h2 y hy)) (by omega) (by omega)).2.2 ⟨p,hp,h3⟩
 .rw[h3]
  have hs:=h1.subset
  exact rrO_hit 1 ⟨p,hs (by simp),y,hs (by simp),h4⟩
open Go.Proofs
attribute [local simp high] rd_5
variable{a:AV}{l:List Mp}
theorem part3(w0 w1 w2:Int):∀o∈[0,1,2],xo1 Tryz.prog (part xo4 #[.int .i64 w0,.int .i64 w1,.int .i64 w2] o)=some (.int .i64 ([w0,w1,w2].getD o 0)):=by
 intro o ho
 simp only[x19a,x1dn,or_false]at ho
 rcases ho with rfl|rfl|rfl<;>kernel_rfl
theorem eqArr3{t:TypeId}(hu:Tryz.prog.underlying t=some (.array 3 xo4))(k:Nat)(x0 x1 x2 y0 y1 y2:Int) :
 xo1 Tryz.prog (Op.equalIn (k+1+1) t (.agg #[.int .i64 x0,.int .i64 x1,.int .i64 x2]) (.agg #[.int .i64 y0,.int .i64 y1,.int .i64 y2]))=some (decide (x0=y0/\x1=y1/\x2=y2)):=by
 have hz:xo1 Tryz.prog (sizeOf xo4)=some 1:=by kernel_rfl
 have pa:=part3 x0 x1 x2
 have pb:=part3 y0 y1 y2
 have pa0:=pa 0 (by simp)
 have pa1:=pa 1 (by simp)
 have pa2:=pa 2 (by simp)
 have pb0:=pb 0 (by simp)
 have pb1:=pb 1 (by simp)
 have pb2:=pb 2 (by simp)
 simp only[List.getD_cons_zero,List.getD_cons_succ]at pa0 pa1 pa2 pb0 pb1 pb2
 rw[Op.equalIn]
 simp only[xpa,xx5 hu,xnz,hz]
 simp only[Std.Legacy.Range.forIn_eq_forIn_range',Std.Legacy.Range.size,x1c7,x1bu,Nat.div_one,x1cz,List.range'_zero,x1dk,List.forIn_nil,xpa,x19q,x1aj,Nat.one_mul,Nat.mul_one]
 simp only[Nat.reduceAdd,pa0,pa1,pa2,pb0,pb1,pb2,xnz,xvk _ _ _ _ _ _ xvl]
 have ie:∀x y:Int,xo1 Tryz.prog (Op.equalIn (k+1) xo4 (.int .i64 x) (.int .i64 y))=some (x == y):=λx y=>xvk _ _ _ _ _ _ xvl
 by_cases h0:x0=y0
 .subst h0
  by_cases h1:x1=y1
  .subst h1
   by_cases h2:x2=y2
   .subst h2
    simp[xqp,xpa,pa1,pa2,ie]
   .simp[h2,xqp,xpa,pa1,pa2,pb1,pb2,ie]
  .simp[h1,xqp,xpa,pa1,pb1,ie]
 .simp[h0,xqp,xpa]
theorem ne_row3(X Y:Operand)(x y z w:Int):sBin Tryz.prog .neq x67 X Y (.agg [I 1,I x,I y]) (.agg [I 1,I z,I w])=some (B (!decide (x=z/\y=w))):=by
 have h:=eqArr3 (t:=x67) (by kernel_rfl) 9998 1 x y 1 z w
 have h2:=x12q (x:=X) (y:=Y) (xs:=[.int .i64 1,.int .i64 x,.int .i64 y]) (ys:=[.int .i64 1,.int .i64 z,.int .i64 w]) (t:=x67) (by kernel_rfl) h ⟨[I 1,I x,I y],rfl⟩ [I 1,I x,I y] [I 1,I z,I w] rfl rfl
 simpa using h2
theorem w_cross3(k:Nat){fl fs pl ps:Int}(h1:bd fl 63)(h2:bd fs 63)(h3:bd pl 63)(h4:bd ps 63)(m:Mem):xnu (xnt (k+1)) xfg [.agg [I 1,I fl,I fs],.agg [I 1,I pl,I ps]] m=some (.agg [I (fl*ps-fs*pl),I (fs-ps),I (pl-fl)],m):=by
 have h:=e_cross3 k 1 fl fs 1 pl ps
 have c1:co2 fl ps fs pl=fl*ps-fs*pl:=by
  have b:=(h1.mul h4).sub (h2.mul h3)
  exact xxg (cg_s (cg_m (.refl fl) (.refl ps)) (cg_m (.refl fs) (.refl pl))) (b.mono (by omega)) |> λe=>by
   unfold co2 sW2 at *
   have:=(xtn fl ps fs pl)
   exact xxg ((cg_m (.refl fl) (.refl ps)).sub (cg_m (.refl fs) (.refl pl))) (b.mono (by omega))
 have c2:co2 fs 1 1 ps=fs-ps:=by
  unfold co2 sW2
  exact xxg (((cg_m (.refl fs) (.refl 1)).sub (cg_m (.refl 1) (.refl ps))).trans (by omega)) (by unfold bd at *;omega)
 have c3:co2 1 pl fl 1=pl-fl:=by
  unfold co2 sW2
  exact xxg (((cg_m (.refl 1) (.refl pl)).sub (cg_m (.refl fl) (.refl 1))).trans (by omega)) (by unfold bd at *;omega)
 rw[c1,c2,c3]at h
 exact xo0 rfl (xpw h) m
theorem w_dot3(k:Nat){x y z pl ps:Int}(h1:bd x 7938)(h2:bd y 63)(h3:bd z 63)(h4:bd pl 63)(h5:bd ps 63)(m:Mem):xnu (xnt (k+1)) xfh [.agg [I x,I y,I z],.agg [I 1,I pl,I ps]] m=some (I (x+y*pl+z*ps),m):=by
 have h:=e_dot3 k x y z 1 pl ps
 have e:dotW x y z 1 pl ps=x+y*pl+z*ps:=by
  refine aW_of ((cg_a (cg_a (cg_m (.refl x) (.refl 1)) (cg_m (.refl y) (.refl pl))) (cg_m (.refl z) (.refl ps))).trans (by omega)) ?_
  exact((h1.add (h2.mul h4)).add (h3.mul h5)).mono (by omega)
 rw[e]at h
 exact xo0 rfl (xpw h) m
theorem l_rk2(d:Nat)(hs:FHs)(ha:Pts a l)(hl:l.length<=1000)(hin:xod l){x y z:Int}(hx:bd x 7938)(hy:bd y 63)(hz:bd z 63){f:List AV}:∀(suf:List Mp) (k j:Nat) (m:Mem) (fc:Nat),l.drop k=suf->suf.length<j->m.get (0,15,4)=some (.row [I x,I y,I z] 0 false) ->
 ∃m',x1a (xnt (d+1)) hs 0 j (.ptr (0,13,3) 0 0) (.ptr (0,15,4) 0 0) (I 2) a (I l.length) (I k) m fc=some (I (rk2 x y z suf),m'):=by
 intro suf
 induction suf with
 |nil=>
  intro k j m fc hd hj h4
  obtain⟨j,rfl⟩:∃i,j=i+1:=⟨j-1,by simp at hj;omega⟩
  have hk:¬((k:Int)<(l.length:Int)):=by have:=x19k.mp hd;omega
  simp only[x1a]
  unfold x4x x8j
  simp[hk,rk2]
 |cons e r ih=>
  intro k j m fc hd hj h4
  obtain⟨j,rfl⟩:∃i,j=i+1:=⟨j-1,by simp at hj;omega⟩
  obtain⟨hk,he,hd⟩:=xpe hd
  have hk':(k:Int)<(l.length:Int):=by omega
  have ix:=ha.ix Mp.len hk
  have ld:=xtj (m:=m) Mp.len (by omega) hk
  rw[he]at ld
  have hp:=hin e (he▸x19j hk)
  have dt:=w_dot3 d hx hy hz hp.ln hp.sm
  obtain⟨M,hM⟩:∃M:Mem,M=((((m.new (0,fc+1+2,7) (.row [I 0,I 0,I 0,I 0,I 0] 0 false)).set (0,fc+1+2,7) (.row [I e.ln,I e.sm,I e.b0,I e.b1,I e.sc] 0 false)).new (0,fc+1+9,8) (.row [I 0,I 0,I 0] 0 false)).set (0,fc+1+9,8) (.row [I 1,I e.ln,I e.sm] 0 false)):=⟨_,rfl⟩
  have g4:M.get (0,15,4)=some (.row [I x,I y,I z] 0 false):=by rw[hM];simp[h4]
  have g8:M.get (0,fc+1+9,8)=some (.row [I 1,I e.ln,I e.sm] 0 false):=by rw[hM];simp
  simp only[x1a]
  unfold x4x x8k x65
  simp only[xnz,xou,hk',x19d,xot,ix,ld]
  simp[Mp.c,z_pt,xxj,xxk]
  rw[<-hM]
  rw[rk2]
  simp[h4,g4,g8,dt]
  by_cases c:x+y*e.ln+z*e.sm=0
  .obtain⟨m',h'⟩:=ih (k+1) j M (fc+1+28+2) hd (by simp at hj;omega) g4
   simp(disch:=omega) [c,xnx]
   exact⟨m',by simpa using h'⟩
  .simp[c]
theorem l_rk1(d:Nat)(hs:FHs)(ha:Pts a l)(hl:l.length<=1000)(hin:xod l){f:Mp}(hf:PtIn f):∀(suf:List Mp) (k j:Nat) (m:Mem) (fc:Nat),l.drop k=suf->suf.length<j->m.get (0,13,3)=some (.row [I 1,I f.ln,I f.sm] 0 false)->m.get (0,15,4)=some (.row [I 0,I 0,I 0] 0 false) ->
 ∃m',x1a (xnt (d+1)) hs 0 j (.ptr (0,13,3) 0 0) (.ptr (0,15,4) 0 0) (I 1) a (I l.length) (I k) m fc=some (I (rk1 f suf),m'):=by
 intro suf
 induction suf with
 |nil=>
  intro k j m fc hd hj h3 h4
  obtain⟨j,rfl⟩:∃i,j=i+1:=⟨j-1,by simp at hj;omega⟩
  have hk:¬((k:Int)<(l.length:Int)):=by have:=x19k.mp hd;omega
  simp only[x1a]
  unfold x4x x8j
  simp[hk,rk1]
 |cons e r ih=>
  intro k j m fc hd hj h3 h4
  obtain⟨j,rfl⟩:∃i,j=i+1:=⟨j-1,by simp at hj;omega⟩
  obtain⟨hk,he,hd⟩:=xpe hd
  have hk':(k:Int)<(l.length:Int):=by omega
  have ix:=ha.ix Mp.len hk
  have ld:=xtj (m:=m) Mp.len (by omega) hk
  rw[he]at ld
  have hp:=hin e (he▸x19j hk)
  have cr:=w_cross3 d hf.ln hf.sm hp.ln hp.sm
  obtain⟨M,hM⟩:∃M:Mem,M=((((m.new (0,fc+1+2,7) (.row [I 0,I 0,I 0,I 0,I 0] 0 false)).set (0,fc+1+2,7) (.row [I e.ln,I e.sm,I e.b0,I e.b1,I e.sc] 0 false)).new (0,fc+1+9,8) (.row [I 0,I 0,I 0] 0 false)).set (0,fc+1+9,8) (.row [I 1,I e.ln,I e.sm] 0 false)):=⟨_,rfl⟩
  have g3:M.get (0,13,3)=some (.row [I 1,I f.ln,I f.sm] 0 false):=by rw[hM];simp[h3]
  have g4:M.get (0,15,4)=some (.row [I 0,I 0,I 0] 0 false):=by rw[hM];simp[h4]
  have g8:M.get (0,fc+1+9,8)=some (.row [I 1,I e.ln,I e.sm] 0 false):=by rw[hM];simp
  simp only[x1a]
  unfold x4x x8k x65
  simp only[xnz,xou,hk',x19d,xot,ix,ld]
  simp[Mp.c,z_pt,xxj,xxk]
  rw[<-hM]
  rw[rk1]
  simp[h3,g3,g8,ne_row3]
  by_cases c:e.ln=f.ln/\e.sm=f.sm
  .obtain⟨m',h'⟩:=ih (k+1) j M (fc+1+28+2) hd (by simp at hj;omega) g3 g4
   simp(disch:=omega) [c,xnx]
   exact⟨m',by simpa using h'⟩
  .have hx:bd (f.ln*e.sm-f.sm*e.ln) 7938:=((hf.ln.mul hp.sm).sub (hf.sm.mul hp.ln)).mono (by omega)
   have l0:=hf.l0;have l1:=hf.l1;have s0:=hf.s0;have s1:=hf.s1
   have l0':=hp.l0;have l1':=hp.l1;have s0':=hp.s0;have s1':=hp.s1
   obtain⟨m',h'⟩:=l_rk2 d hs ha hl hin (x:=f.ln*e.sm-f.sm*e.ln) (y:=f.sm-e.sm) (z:=e.ln-f.ln) hx (by unfold bd;omega) (by unfold bd;omega) (f:=[]) r (k+1) j (M.set (0,15,4) (.row [I (f.ln*e.sm-f.sm*e.ln),I (f.sm-e.sm),I (e.ln-f.ln)] 0 false)) (fc+1+24+2) hd (by simp at hj;omega) (by simp)
   have hc:(!decide (e.ln=f.ln)||!decide (e.sm=f.sm))=true:=by
    by_cases c1:e.ln=f.ln<;>by_cases c2:e.sm=f.sm<;>simp[c1,c2]at c ⊢
   simp(disch:=omega) [c,hc,g3,g4,g8,cr,xnx]
   exact⟨m',by simpa using h'⟩
theorem w_rank3(d:Nat)(ha:Pts a l)(hl:l.length<=1000)(hin:xod l)(m:Mem):xnu (xnt (d+2)) x2e [a] m=some (I (rkM l),m):=by
 refine xo0 (by simp[ha.still]) ?_ m
 rw[xiy]
 unfold xd4 x8m
 have hlen:sLen Tryz.prog x11 a=some (I l.length):=ha.len xxh
 cases l with
 |nil=>
  simp[mem0,hlen]
  exact RetF.st rfl rfl
 |cons f r=>
  have ix:=ha.ix Mp.len (k:=0) (by simp)
  rw[xp2 (by simp),x19b]at ix
  simp only[List.getElem_cons_zero,Mp.c,x1ad]at ix
  have hf:=hin f (x199 ..)
  have hne:¬((r.length:Int)+1=0):=by omega
  rw[show I ((0:Nat):Int)=I 0 from rfl]at ix
  simp[mem0,hlen,hne,ix,xxj,xxk,tR,xoa,disj,cAp]
  unfold xfi
  obtain⟨m',h'⟩:=l_rk1 d [] ha hl hin hf (f::r) 0 NN ((((⟨[],1⟩:Mem).new (0,13,3) (.row [I 0,I 0,I 0] 0 false)).set (0,13,3) (.row [I 1,I f.ln,I f.sm] 0 false)).new (0,15,4) (.row [I 0,I 0,I 0] 0 false)) (17+3) rfl (by rw[xo8];simp at hl ⊢;omega) (by simp) (by simp)
  rw[show I ((0:Nat):Int)=I 0 from rfl]at h'
  simp only[x19e,Int.natCast_add,Int.natCast_one]at h'
  simp[hlen,h']
  exact RetF.st rfl rfl
def mn(x y:Int):Int:=if y<x then y else x
def xpy(u:List Int)(p:Pq):List Int:=u.map λx=>if x=at0 u p.a.toNat\/x=at0 u p.b.toNat then mn (at0 u p.a.toNat) (at0 u p.b.toNat)else x
def joinsM(u:List Int)(l:List Pq):List Int:=l.foldl xpy u
def freshM(n:Nat):List Int:=(List.range n).map λ(i:Nat)=>(i:Int)
def PqIn(n:Nat)(p:Pq):Prop:=0<=p.a/\p.a<p.b/\p.b<n
structure Lab (n:Nat) (u:List Int):Prop where
 len:u.length=n
 ok:∀v,v<n->0<=at0 u v/\at0 u v<=v/\at0 u (at0 u v).toNat=at0 u v
theorem x136(u:List Int)(p:Pq):(xpy u p).length=u.length:=by unfold xpy;simp
theorem xts{u:List Int}{p:Pq}{v:Nat}(h:v<u.length):at0 (xpy u p) v=if at0 u v=at0 u p.a.toNat\/at0 u v=at0 u p.b.toNat then mn (at0 u p.a.toNat) (at0 u p.b.toNat)else at0 u v:=by
 rw[xqh (by rw[x136];exact h),xqh h]
 unfold xpy
 rw[List.getElem_map]
theorem mn_or(a b:Int):mn a b=a/\a<=b\/mn a b=b/\b<a:=by
 unfold mn
 split
 .right;exact⟨rfl,by assumption⟩
 .left;exact⟨rfl,by omega⟩
theorem Lab.fresh(n:Nat):Lab n (freshM n):=by
 refine⟨by simp[freshM],λv hv=>?_⟩
 have:∀w,w<n->at0 (freshM n) w=w:=λw hw=>by
  rw[xqh (by simpa[freshM]using hw)]
  simp[freshM]
 rw[this v hv]
 refine⟨by omega,by omega,?_⟩
 rw[x1ax,this v hv]
theorem Lab.get_fresh{n v:Nat}(h:v<n):at0 (freshM n) v=v:=by
 rw[xqh (by simpa[freshM]using h)]
 simp[freshM]
theorem Lab.lt{n:Nat}{u:List Int}(h:Lab n u){v:Nat}(hv:v<n):(at0 u v).toNat<n:=by
 have:=h.ok v hv
 omega
theorem Lab.join{n:Nat}{u:List Int}(h:Lab n u){p:Pq}(hp:PqIn n p):Lab n (xpy u p):=by
 obtain⟨h0,h1,h2⟩:=hp
 have ea:=h.ok p.a.toNat (by omega)
 have eb:=h.ok p.b.toNat (by omega)
 refine⟨by rw[x136];exact h.len,λv hv=>?_⟩
 have ev:=h.ok v hv
 rw[xts (by rw[h.len];exact hv)]
 obtain⟨m,hm⟩:∃m,m=mn (at0 u p.a.toNat) (at0 u p.b.toNat):=⟨_,rfl⟩
 have hmo:=mn_or (at0 u p.a.toNat) (at0 u p.b.toNat)
 rw[<-hm]at hmo ⊢
 by_cases c:at0 u v=at0 u p.a.toNat\/at0 u v=at0 u p.b.toNat
 .rw[if_pos c]
  refine⟨by omega,by omega,?_⟩
  rw[xts (by rw[h.len];omega),<-hm]
  have:at0 u m.toNat=at0 u p.a.toNat\/at0 u m.toNat=at0 u p.b.toNat:=by
   rcases hmo with ⟨e,-⟩|⟨e,-⟩
   .rw[e,ea.2.2];exact Or.inl rfl
   .rw[e,eb.2.2];exact Or.inr rfl
  rw[if_pos this]
 .rw[if_neg c]
  refine⟨ev.1,ev.2.1,?_⟩
  rw[xts (by rw[h.len];omega),ev.2.2,if_neg c]
theorem Lab.joins{n:Nat}:∀{l:List Pq} {u:List Int},Lab n u->(∀p∈l,PqIn n p)->Lab n (joinsM u l)
 |[],_,h,_=>h
 |p::l,u,h,hp=>Lab.joins (l:=l) (h.join (hp p (x199 ..))) λq hq=>hp q (x198 _ hq)
def Sm(u:List Int)(v w:Nat):Prop:=at0 u v=at0 u w
theorem join_aux(x y a b m:Int)(hmo:m=a/\a<=b\/m=b/\b<a):((if x=a\/x=b then m else x)=(if y=a\/y=b then m else y))↔(x=y\/(x=a/\y=b)\/(x=b/\y=a)):=by
 by_cases c1:x=a\/x=b<;>by_cases c2:y=a\/y=b<;>(first|rw[if_pos c1]|rw[if_neg c1])<;>(first|rw[if_pos c2]|rw[if_neg c2])<;>omega
theorem xzl{n:Nat}{u:List Int}{p:Pq}(h:Lab n u){v w:Nat}(hv:v<n)(hw:w<n) :
 Sm (xpy u p) v w↔Sm u v w\/(Sm u v p.a.toNat/\Sm u w p.b.toNat)\/(Sm u v p.b.toNat/\Sm u w p.a.toNat):=by
 unfold Sm
 rw[xts (by rw[h.len];exact hv),xts (by rw[h.len];exact hw)]
 exact join_aux _ _ _ _ _ (mn_or _ _)
theorem join_mono{n:Nat}{u:List Int}{p:Pq}(h:Lab n u){v w:Nat}(hv:v<n)(hw:w<n)(e:Sm u v w):Sm (xpy u p) v w:=(xzl h hv hw).mpr (Or.inl e)
theorem x137{n:Nat}:∀{l:List Pq} {u:List Int},Lab n u->(∀p∈l,PqIn n p)->∀{v w:Nat},v<n->w<n->Sm u v w->Sm (joinsM u l) v w
 |[],_,_,_,_,_,_,_,e=>e
 |p::l,u,h,hp,v,w,hv,hw,e=>x137 (l:=l) (h.join (hp p (x199 ..))) (λq hq=>hp q (x198 _ hq)) hv hw (join_mono h hv hw e)
theorem join_ends{n:Nat}{u:List Int}{p:Pq}(h:Lab n u)(hp:PqIn n p):Sm (xpy u p) p.a.toNat p.b.toNat:=by
 obtain⟨h0,h1,h2⟩:=hp
 exact(xzl h (by omega) (by omega)).mpr (Or.inr (Or.inl ⟨rfl,rfl⟩))
theorem xvy{n:Nat}:∀{l:List Pq} {u:List Int},Lab n u->(∀p∈l,PqIn n p)->∀p∈l,Sm (joinsM u l) p.a.toNat p.b.toNat
 |[],_,_,_,p,hp=>by cases hp
 |q::l,u,h,hp,p,hm=>by
  have hq:=hp q (x199 ..)
  have hl:∀p∈l,PqIn n p:=λp h=>hp p (x198 _ h)
  rcases x19a.mp hm with rfl|hm
  .have:PqIn n p:=hq
   obtain⟨h0,h1,h2⟩:=hq
   exact x137 (l:=l) (h.join this) hl (by omega) (by omega) (join_ends h this)
  .exact xvy (h.join hq) hl p hm
theorem x138{n:Nat}{R:Nat->Nat->Prop}(hs:∀{a b},R a b->R b a)(ht:∀{a b c},R a b->R b c->R a c):∀{l:List Pq} {u:List Int},Lab n u->(∀p∈l,PqIn n p)->(∀p∈l,R p.a.toNat p.b.toNat)->(∀v w,v<n->w<n->Sm u v w->R v w)->∀v w,v<n->w<n->Sm (joinsM u l) v w->R v w
 |[],_,_,_,_,h=>h
 |p::l,u,h,hp,hR,hu=>by
  have hq:=hp p (x199 ..)
  refine x138 (R:=R) hs ht (l:=l) (h.join hq) (λq hq=>hp q (x198 _ hq)) (λq hq=>hR q (x198 _ hq)) λv w hv hw e=>?_
  obtain⟨h0,h1,h2⟩:=hq
  have hr:=hR p (x199 ..)
  rcases(xzl h hv hw).mp e with e|⟨e1,e2⟩|⟨e1,e2⟩
  .exact hu v w hv hw e
  .exact ht (hu v _ hv (by omega) e1) (ht hr (hs (hu w _ hw (by omega) e2)))
  .exact ht (hu v _ hv (by omega) e1) (ht (hs hr) (hs (hu w _ hw (by omega) e2)))
theorem Lab.ext{n:Nat}{u t:List Int}(h:Lab n u)(k:Lab n t)(he:∀v w,v<n->w<n->(Sm u v w↔Sm t v w)):u=t:=by
 apply List.ext_getElem
 .rw[h.len,k.len]
 .intro v hv hv'
  rw[h.len]at hv
  rw[<-xqh,<-xqh]
  have a:=h.ok v hv
  have b:=k.ok v hv
  have e1:at0 t (at0 u v).toNat=at0 t v:=(he _ v (by omega) hv).mp (by unfold Sm;exact a.2.2)
  have e2:at0 u (at0 t v).toNat=at0 u v:=(he _ v (by omega) hv).mpr (by unfold Sm;exact b.2.2)
  have a2:=k.ok (at0 u v).toNat (by omega)
  have b2:=h.ok (at0 t v).toNat (by omega)
  omega
def Indep(u:List Int):List Pq->Prop
 |[]=>True
 |p::l=>¬Sm u p.a.toNat p.b.toNat/\Indep (xpy u p) l
theorem Indep.app{u:List Int}:∀{l k:List Pq} ,Indep u (l++k)↔Indep u l/\Indep (joinsM u l) k:=by
 intro l
 induction l generalizing u with
 |nil=>intro k;simp[Indep,joinsM]
 |cons p l ih=>
  intro k
  simp only[x1ad,Indep]
  rw[ih]
  simp[joinsM,and_assoc]
def xqu(n:Nat)(u:List Int):Nat:=((List.range n).filter λ(v:Nat)=>decide (at0 u v=(v:Int))).length
theorem count_ne{n:Nat}{p q:Nat->Bool}{w:Nat}(hw:w<n)(h1:p w=true)(h2:q w=false)(h:∀v,v<n->v≠w->p v=q v):((List.range n).filter p).length=((List.range n).filter q).length+1:=by
 induction n with
 |zero=>omega
 |succ n ih=>
  rw[x1cw,x1dd,x1dd,x1a2,x1a2]
  by_cases c:w=n
  .subst c
   have e:(List.range w).filter p=(List.range w).filter q:=by
    apply List.filter_congr
    intro v hv
    have:=x19v.mp hv
    exact h v (by omega) (by omega)
   rw[e]
   simp[h1,h2]
  .have:=ih (by omega) λv hv=>h v (by omega)
   have e:=h n (by omega) (by omega)
   simp only[List.filter_cons,e,List.filter_nil]
   omega
theorem xzm{n:Nat}{u:List Int}{p:Pq}(h:Lab n u)(hp:PqIn n p)(hne:¬Sm u p.a.toNat p.b.toNat):xqu n u=xqu n (xpy u p)+1:=by
 have hp':=hp
 obtain⟨h0,h1,h2⟩:=hp
 have ea:=h.ok p.a.toNat (by omega)
 have eb:=h.ok p.b.toNat (by omega)
 unfold Sm at hne
 have hmo:=mn_or (at0 u p.a.toNat) (at0 u p.b.toNat)
 obtain⟨w,hw⟩:∃w:Int,w=if at0 u p.b.toNat<at0 u p.a.toNat then at0 u p.a.toNat else at0 u p.b.toNat:=⟨_,rfl⟩
 have hwor:w=at0 u p.a.toNat/\at0 u p.b.toNat<at0 u p.a.toNat\/w=at0 u p.b.toNat/\at0 u p.a.toNat<at0 u p.b.toNat:=by
  rw[hw];split<;>omega
 unfold xqu
 refine count_ne (w:=w.toNat) (by omega) ?_ ?_ λv hv hne'=>?_
 .rw[x1do]
  rcases hwor with ⟨e,-⟩|⟨e,-⟩
  .rw[e,ea.2.2];omega
  .rw[e,eb.2.2];omega
 .rw[decide_eq_false_iff_not,xts (by rw[h.len];omega)]
  have:at0 u w.toNat=w:=by
   rcases hwor with ⟨e,-⟩|⟨e,-⟩
   .rw[e];exact ea.2.2
   .rw[e];exact eb.2.2
  rw[this,if_pos (by omega)]
  omega
 .rw[Bool.eq_iff_iff,x1do,x1do,xts (by rw[h.len];omega)]
  have ev:=h.ok v hv
  by_cases c:at0 u v=at0 u p.a.toNat\/at0 u v=at0 u p.b.toNat
  .rw[if_pos c]
   constructor
   .intro e
    omega
   .intro e
    rcases hmo with ⟨q,-⟩|⟨q,-⟩
    .rw[q]at e;rw[e]at ea;have:=ea.2.2;simpa using this
    .rw[q]at e;rw[e]at eb;have:=eb.2.2;simpa using this
  .rw[if_neg c]
theorem xxm{n:Nat}:∀{l:List Pq} {u:List Int},Lab n u->(∀p∈l,PqIn n p)->Indep u l->xqu n u=xqu n (joinsM u l)+l.length
 |[],_,_,_,_=>rfl
 |p::l,u,h,hp,hi=>by
  have hq:=hp p (x199 ..)
  have:=xxm (h.join hq) (λq hq=>hp q (x198 _ hq)) hi.2
  have h1:=xzm h hq hi.1
  have e:joinsM u (p::l)=joinsM (xpy u p) l:=rfl
  rw[e,x19e]
  omega
theorem x139(n:Nat):xqu n (freshM n)=n:=by
 unfold xqu
 have:(List.range n).filter (λ(v:Nat)=>decide (at0 (freshM n) v=(v:Int)))=List.range n:=by
  rw[x1cu]
  intro v hv
  rw[Lab.get_fresh (x19v.mp hv)]
  simp
 rw[this,List.length_range]
variable{P:List Pq}
def prs(P:List Pq)(F:List Int):List Pq:=F.map (prAt P)
structure For (n:Nat) (P:List Pq) (F:List Int):Prop where
 rng:∀i∈F,0<=i/\i<P.length
 nod:F.Nodup
 ind:Indep (freshM n) (prs P F)
theorem prAt_in{n:Nat}(hP:∀p∈P,PqIn n p){i:Int}(h:0<=i/\i<P.length):PqIn n (prAt P i):=by
 unfold prAt
 have:i.toNat<P.length:=by omega
 rw[x1a7,x19g this]
 exact hP _ (x19j this)
theorem xse{n:Nat}(hP:∀p∈P,PqIn n p){F:List Int}(h:∀i∈F,0<=i/\i<P.length):∀p∈prs P F,PqIn n p:=λp hp=>by
 obtain⟨i,hi,rfl⟩:=x1a1.mp hp
 exact prAt_in hP (h i hi)
theorem For.take{n:Nat}{F G:List Int}(h:For n P (F++G)):For n P F:=by
 refine⟨λi hi=>h.rng i (x1bs _ hi),(x1c4.mp h.nod).1,?_⟩
 have:=h.ind
 unfold prs at this
 rw[x1d0]at this
 exact(Indep.app.mp this).1
theorem For.cut{n:Nat}(hP:∀p∈P,PqIn n p){F:List Int}(h:For n P F):Cut P F:=by
 have main:∀(k:Nat) (F:List Int),F.length=k->For n P F->Cut P F:=by
  intro k
  induction k with
  |zero=>intro F hl _ i hi;rw[x1c5.mp hl]at hi;cases hi
  |succ k ih=>
   intro F hl h
   obtain⟨G,q,rfl⟩:∃G q,F=G++[q]:=by
    have hne:F≠[]:=by rintro rfl;simp at hl
    exact⟨F.dropLast,F.getLast hne,(x1dw hne).symm⟩
   have hG:=h.take
   have hc:=ih G (by simpa using hl) hG
   have hq:=prAt_in hP (h.rng q (by simp))
   obtain⟨u,hu⟩:∃u,u=joinsM (freshM n) (prs P G):=⟨_,rfl⟩
   have hL:Lab n u:=by rw[hu];exact(Lab.fresh n).joins (xse hP hG.rng)
   have hind:=h.ind
   unfold prs at hind
   rw[x1d0]at hind
   have hne:¬Sm u (prAt P q).a.toNat (prAt P q).b.toNat:=by
    have:=(Indep.app.mp hind).2
    rw[show List.map (prAt P) [q]=[prAt P q]from rfl]at this
    rw[hu]
    exact this.1
   have hqG:q∉G:=λhm=>(x1c4.mp h.nod).2.2 q hm q (by simp) rfl
   have hends:∀j∈G,Sm u (prAt P j).a.toNat (prAt P j).b.toNat:=λj hj=>by
    rw[hu]
    exact xvy (Lab.fresh n) (xse hP hG.rng) _ (x1a1.mpr ⟨j,hj,rfl⟩)
   unfold Sm at hne hends
   intro i hi
   rcases x1ae.mp hi with hi|hi
   .obtain⟨s,h1,h2⟩:=hc i hi
    by_cases c:s (prAt P q).a=s (prAt P q).b
    .refine⟨s,h1,λj hj hji=>?_⟩
     rcases x1ae.mp hj with hj|hj
     .exact h2 j hj hji
     .simp at hj;subst hj;exact c
    .refine⟨λv=>if at0 u v.toNat=at0 u (prAt P q).b.toNat then !(s v)else s v,?_,λj hj hji=>?_⟩
     .have:=hends i hi
      simp only
      rw[this]
      split
      .simpa using h1
      .exact h1
     .simp only
      rcases x1ae.mp hj with hj|hj
      .have:=hends j hj
       rw[this,h2 j hj hji]
      .simp at hj;subst hj
       rw[if_neg hne,if_pos rfl]
       cases h3:s (prAt P j).a<;>cases h4:s (prAt P j).b<;>simp_all
   .simp at hi;subst hi
    refine⟨λv=>decide (at0 u v.toNat=at0 u (prAt P i).a.toNat),?_,λj hj hji=>?_⟩
    .simp[Ne.symm hne]
    .rcases x1ae.mp hj with hj|hj
     .simp only;rw[hends j hj]
     .simp at hj;exact absurd hj hji
 exact main _ F rfl h
theorem For.len{n:Nat}(hP:∀p∈P,PqIn n p){F:List Int}(h:For n P F):F.length<=n:=by
 have:=xxm (Lab.fresh n) (xse hP h.rng) h.ind
 rw[x139]at this
 have e:(prs P F).length=F.length:=by unfold prs;simp
 omega
end Go.Ix
namespace Go.Ix
variable{P:List Pq}
theorem x13a{u:List Int}{p:Pq}(h:at0 u p.a.toNat=at0 u p.b.toNat):xpy u p=u:=by
 unfold xpy
 conv=>rhs;rw[<-List.map_id u]
 apply x1db
 intro x _
 show _=x
 rw[h]
 by_cases c:x=at0 u p.b.toNat
 .rw[if_pos (Or.inl c),c];unfold mn;simp
 .rw[if_neg (by simp[c])]
theorem xzn{α:Type}{R:α->α->Prop}(hi:∀a,¬R a a)(ha:∀a b,R a b->R b a->False):∀{l k:List α},l.Pairwise R->k.Pairwise R->(∀x,x∈l↔x∈k)->l=k
 |[],[],_,_,_=>rfl
 |[],y::k,_,_,h=>by have:=(h y).mpr (x199 ..);cases this
 |x::l,[],_,_,h=>by have:=(h x).mp (x199 ..);cases this
 |x::l,y::k,h1,h2,h=>by
  rw[x1bq]at h1 h2
  have e:x=y:=by
   rcases x19a.mp ((h x).mp (x199 ..))with e|e
   .exact e
   .rcases x19a.mp ((h y).mpr (x199 ..))with e2|e2
    .exact e2.symm
    .exact(ha _ _ (h2.1 x e) (h1.1 y e2)).elim
  subst e
  have:=xzn hi ha h1.2 h2.2 λz=>by
   constructor
   .intro hz
    rcases x19a.mp ((h z).mp (x198 _ hz))with e|e
    .rw[e]at hz;exact(hi _ (h1.1 _ hz)).elim
    .exact e
   .intro hz
    rcases x19a.mp ((h z).mpr (x198 _ hz))with e|e
    .rw[e]at hz;exact(hi _ (h2.1 _ hz)).elim
    .exact e
  rw[this]
def lx(f:Int->Int)(i j:Int):Prop:=f i<f j\/(f i=f j/\i<j)
theorem lx_irr{f:Int->Int}(i:Int):¬lx f i i:=by unfold lx;omega
theorem lx_asym{f:Int->Int}(i j:Int)(h:lx f i j)(h2:lx f j i):False:=by unfold lx at *;omega
def Ordd(f:Int->Int)(N:Nat)(L:List Int):Prop:=L.Pairwise (lx f)/\∀x,x∈L↔(0<=x/\x<N)
theorem Ordd.one{f:Int->Int}{N:Nat}{L K:List Int}(h:Ordd f N L)(k:Ordd f N K):L=K:=xzn lx_irr lx_asym h.1 k.1 λx=>(h.2 x).trans (k.2 x).symm
def Asc(F:List Int):Prop:=F.Pairwise (· < ·)
theorem Asc.one{F G:List Int}(h:Asc F)(k:Asc G)(e:∀x,x∈F↔x∈G):F=G:=xzn (λa=>by omega) (λa b=>by omega) h k e
theorem same_len{l k:List Int}(hl:l.Nodup)(hk:k.Nodup)(h:∀x,x∈l↔x∈k):l.length=k.length:=by
 have:=x12r hl λx hx=>(h x).mp hx
 have:=x12r hk λx hx=>(h x).mpr hx
 omega
theorem Asc.filter{F:List Int}(h:Asc F)(p:Int->Bool):Asc (F.filter p):=List.Pairwise.filter p h
variable{n:Nat}
theorem x13b{t:List Int}{l:List Pq}(hl:∀p∈l,PqIn n p)(h:∀p∈l,Sm t p.a.toNat p.b.toNat){v w:Nat}(hv:v<n)(hw:w<n)(hs:Sm (joinsM (freshM n) l) v w):Sm t v w:=by
 refine x138 (R:=Sm t) (λh=>h.symm) (λh1 h2=>h1.trans h2) (Lab.fresh n) hl h (λa b ha hb e=>?_) v w hv hw hs
 unfold Sm at e
 rw[Lab.get_fresh ha,Lab.get_fresh hb]at e
 have:a=b:=by omega
 rw[this];rfl
theorem x13c{l k:List Pq}(hl:∀p∈l,PqIn n p)(hk:∀p∈k,PqIn n p)(h1:∀p∈l,Sm (joinsM (freshM n) k) p.a.toNat p.b.toNat)(h2:∀p∈k,Sm (joinsM (freshM n) l) p.a.toNat p.b.toNat):joinsM (freshM n) l=joinsM (freshM n) k:=
 ((Lab.fresh n).joins hl).ext ((Lab.fresh n).joins hk) λv w hv hw=>⟨x13b hl h1 hv hw,x13b hk h2 hv hw⟩
theorem joins_mem{l k:List Pq}(hl:∀p∈l,PqIn n p)(hk:∀p∈k,PqIn n p)(h:∀p,p∈l↔p∈k):joinsM (freshM n) l=joinsM (freshM n) k:=
 x13c hl hk (λp hp=>xvy (Lab.fresh n) hk p ((h p).mp hp)) (λp hp=>xvy (Lab.fresh n) hl p ((h p).mpr hp))
theorem x13d:∀{l:List Pq} {u:List Int},Lab n u->(∀p∈l,PqIn n p)->xqu n u<=xqu n (joinsM u l)+l.length
 |[],_,_,_=>x196 _
 |p::l,u,h,hp=>by
  have hq:=hp p (x199 ..)
  have ih:=x13d (h.join hq) λq hq=>hp q (x198 _ hq)
  have e:joinsM u (p::l)=joinsM (xpy u p) l:=rfl
  rw[e,x19e]
  by_cases c:Sm u p.a.toNat p.b.toNat
  .rw[x13a c]at ih ⊢;omega
  .have:=xzm h hq c;omega
theorem x13e:∀{l:List Pq} {u:List Int},Lab n u->(∀p∈l,PqIn n p)->xqu n (joinsM u l)+l.length<=xqu n u->Indep u l
 |[],_,_,_,_=>trivial
 |p::l,u,h,hp,hr=>by
  have hq:=hp p (x199 ..)
  have hl:∀q∈l,PqIn n q:=λq hq=>hp q (x198 _ hq)
  have e:joinsM u (p::l)=joinsM (xpy u p) l:=rfl
  rw[e,x19e]at hr
  by_cases c:Sm u p.a.toNat p.b.toNat
  .have:=x13d (h.join hq) hl
   rw[x13a c]at this hr
   omega
  .have:=xzm h hq c
   exact⟨c,x13e (h.join hq) hl (by omega)⟩
theorem For.perm(hP:∀p∈P,PqIn n p){F G:List Int}(h:For n P F)(hG:G.Nodup)(he:∀x,x∈F↔x∈G):For n P G:=by
 have hr:∀i∈G,0<=i/\i<P.length:=λi hi=>h.rng i ((he i).mpr hi)
 refine⟨hr,hG,x13e (Lab.fresh n) (xse hP hr) ?_⟩
 have h1:=xxm (Lab.fresh n) (xse hP h.rng) h.ind
 have h2:joinsM (freshM n) (prs P G)=joinsM (freshM n) (prs P F):=joins_mem (xse hP hr) (xse hP h.rng) λp=>by
  unfold prs
  rw[x1a1,x1a1]
  exact⟨λ⟨i,a,b⟩=>⟨i,(he i).mpr a,b⟩,λ⟨i,a,b⟩=>⟨i,(he i).mp a,b⟩⟩
 have h3:=same_len h.nod hG he
 rw[h2]
 have e1:(prs P F).length=F.length:=by unfold prs;simp
 have e2:(prs P G).length=G.length:=by unfold prs;simp
 omega
theorem For.sub(hP:∀p∈P,PqIn n p){F G:List Int}(h:For n P F)(hG:G.Nodup)(hs:∀x∈G,x∈F):For n P G:=by
 refine(h.perm (G:=G++F.filter λx=>!(G.contains x)) hP ?_ λx=>?_).take
 .rw[x1c4]
  refine⟨hG,h.nod.filter _,λa ha b hb e=>?_⟩
  subst e
  have:=(x19n.mp hb).2
  simp at this
  exact this ha
 .rw[x1ae,x19n]
  by_cases c:x∈G
  .simp[c,hs x c]
  .simp[c]
structure Tree (n:Nat) (P:List Pq) (F:List Int):Prop where
 fo:For n P F
 asc:Asc F
 all:∀p∈P,Sm (joinsM (freshM n) (prs P F)) p.a.toNat p.b.toNat
theorem mem_prs{F':List Int}(hr:∀i∈F',0<=i/\i<P.length):∀p∈prs P F',p∈P:=by
 intro p hp
 obtain⟨i,hi,rfl⟩:=x1a1.mp hp
 have:=hr i hi
 have h2:i.toNat<P.length:=by omega
 unfold prAt
 rw[x1a7,x19g h2]
 exact x19j h2
theorem Tree.uni(hP:∀p∈P,PqIn n p){F:List Int}(h:Tree n P F):joinsM (freshM n) (prs P F)=joinsM (freshM n) P:=
 x13c (xse hP h.fo.rng) hP (λp hp=>xvy (Lab.fresh n) hP p (mem_prs h.fo.rng p hp)) h.all
theorem Tree.len(hP:∀p∈P,PqIn n p){F:List Int}(h:Tree n P F):n=xqu n (joinsM (freshM n) P)+F.length:=by
 have:=xxm (Lab.fresh n) (xse hP h.fo.rng) h.fo.ind
 rw[x139,h.uni hP]at this
 have e:(prs P F).length=F.length:=by unfold prs;simp
 omega
theorem Ordd.split{f:Int->Int}{N:Nat}{L:List Int}(h:Ordd f N L)(c:Int):L=L.filter (λi=>decide (f i<=c))++L.filter (λi=>!decide (f i<=c)):=by
 refine h.one ⟨?_,λx=>?_⟩
 .rw[x1br]
  refine⟨h.1.filter _,h.1.filter _,λa ha b hb=>?_⟩
  have h1:=(x19n.mp ha).2
  have h2:=(x19n.mp hb).2
  simp at h1 h2
  unfold lx
  omega
 .rw[<-h.2,x1ae,x19n,x19n]
  cases decide (f x<=c)<;>simp
end Go.Ix
