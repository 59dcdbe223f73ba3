import Derived.Test.YtpeakdjfagbpcaaGreatWg13
set_option linter.unusedSimpArgs false
set_option linter.unusedVariables false
namespace Go.Ix
open Go.Proofs
theorem Gk.lenP{ok:Id->Prop}{m:Mem}{a:AV}{l:List Int}(h:Gk 1 intE ok m a l):sLen Tryz.prog x2 a=some (I l.length):=by
 rcases h with ⟨rfl,rfl⟩|⟨id,ver,h0,rfl,hg⟩
 .exact x2qf x2il
 .rfl
def PartC(n:Nat)(l:List Edge)(m:Mem):Prop:=m.get (0,6,3)=some (.row [srI (0,5,9) n] 0 false)/\∃cells,m.get (0,5,9)=some (.row cells 0 false)/\cells.length=n/\∀(v:Nat) (hv:v<cells.length),Gk 1 intE (fun id=>id.1=0) m cells[v] (nearU l v)
theorem PartC.frame{n:Nat}{l:List Edge}{m m':Mem}(h:PartC n l m)(hm:∀id:Id,id.1<1->m'.get id=m.get id):PartC n l m':=by
 obtain⟨h1,cells,h2,h3,h4⟩:=h
 exact⟨by rw[hm _ (by simp)];exact h1,cells,by rw[hm _ (by simp)];exact h2,h3,fun v hv=>(h4 v hv).frame fun id hid=>hm id (by omega)⟩
inductive Reach (nb:Nat->List Int) (r:Nat):Nat->Prop
 |refl:Reach nb r r
 |step {a b:Nat}:Reach nb r a->(b:Int)∈nb a->Reach nb r b
theorem x2xc{n:Nat}:∀(l:List Edge) (f:List Int) (p:List Int) (v:Int),f.length=l.length->p.length=n->(∀e∈l,EdgeIn n e/\e.fr≠e.to) ->
 (x2kg p v l f).2=0->Cap (l.zip f)/\(x2kg p v l f).1=v+valF (l.zip f)/\∀k,k<n->at0 p k+netF k (l.zip f)=0
 |[],[],p,v,_,hp,_,h=>by
  simp only[x2kg]at h ⊢
  cases c:p.any (fun x=>!decide (x=0))
  .rw[c]at h
   refine⟨fun x hx=>by simp at hx,by simp[valF],fun k hk=>?_⟩
   have:at0 p k=0:=by
    rw[x2io (by omega)]
    have:=List.any_eq_false.mp c (p[k]'(by omega)) (List.getElem_mem _)
    simpa using this
   simp[netF,this]
  .rw[c]at h;simp at h
 |e::es,f::fs,p,v,hl,hp,hed,h=>by
  simp only[x2kg]at h ⊢
  cases c:wi f (-e.wt) e.wt
  .rw[c]at h;simp at h
  .rw[c,cond_true]at h
   rw[cond_true]
   have hc:=wi_t c
   obtain⟨⟨f0,f1,t0,t1,-⟩,hne⟩:=hed e (List.mem_cons_self ..)
   obtain⟨i1,i2,i3⟩:=x2xc es fs (x2kr p e f) (v+f*e.jump) (by simpa using hl) (by rw[x2u3];exact hp) (fun x hx=>hed x (List.mem_cons_of_mem _ hx)) h
   refine⟨fun x hx=>?_,?_,fun k hk=>?_⟩
   .rw[List.zip_cons_cons]at hx
    rcases List.mem_cons.mp hx with rfl|hx
    .exact hc
    .exact i1 x hx
   .rw[i2,List.zip_cons_cons,valF];simp only;omega
   .have:=i3 k hk
    rw[List.zip_cons_cons]
    simp only[netF]
    unfold x2kr at this
    rw[x2qo (by simp;omega),x2qo (by omega)]at this
    by_cases c1:k=e.fr.toNat
    .rw[if_pos c1]at this
     rw[if_neg (by omega),if_pos c1.symm,c1]
     rw[c1]at this
     omega
    .rw[if_neg c1]at this
     by_cases c2:k=e.to.toNat
     .rw[if_pos c2]at this
      rw[if_pos c2.symm,if_neg (by omega),c2]
      rw[c2]at this
      omega
     .rw[if_neg c2]at this
      rw[if_neg (by omega),if_neg (by omega)]
      omega
 |[],_::_,_,_,h,_,_,_=>by simp at h
 |_::_,[],_,_,h,_,_,_=>by simp at h
theorem x2zy{n:Nat}{l:List Edge}{f:List Int}(hed:∀e∈l,EdgeIn n e/\e.fr≠e.to)(h:(x2kh n l f).2=0):f.length=l.length/\Feas n (l.zip f)/\(x2kh n l f).1=valF (l.zip f):=by
 unfold x2kh at h ⊢
 by_cases c:(f.length:Int)=(l.length:Int)
 .rw[decide_eq_true c]at h ⊢
  simp only[Bool.not_true,cond_false,Int.toNat_natCast]at h ⊢
  have hl:f.length=l.length:=by omega
  obtain⟨a,b,d⟩:=x2xc (n:=n) l f (List.replicate n 0) 0 hl (by simp) hed h
  refine⟨hl,⟨a,fun v hv=>?_,ends_zip hed hl⟩,by omega⟩
  have:=d v hv
  rw[at0_rep]at this
  omega
 .rw[decide_eq_false c]at h;simp at h
end Go.Ix
