import Derived.Test.YtpeakdjfagbpcaaGreatWTurns
set_option linter.unusedSimpArgs false
namespace Go.Ix
open Go.Proofs
theorem x222{σ R:Type}{N:Nat}(X:Nat->Nat->σ->Mem->Nat->R)(Inv:Nat->σ->Mem->Prop)(Q:R->Prop)(hstep:∀n k s m fc,k<N->Inv k s m->(∀s' m' fc',Inv (k+1) s' m'->Q (X n (k+1) s' m' fc'))->Q (X (n+1) k s m fc))(hend:∀n s m fc,Inv N s m->Q (X (n+1) N s m fc)):∀n k s m fc,k<=N->N<n+k->Inv k s m->Q (X n k s m fc):=by
 intro n
 induction n with
 |zero=>intro k s m fc h1 h2;omega
 |succ n ih=>
  intro k s m fc h1 h2 hI
  rcases Nat.lt_or_ge k N with h|h
  .exact hstep n k s m fc h hI fun s' m' fc' hI'=>ih (k+1) s' m' fc' h (by omega) hI'
  .have:k=N:=by omega
   subst this
   exact hend n s m fc hI
def RetF(T:AV->Prop)(r:O2):Prop:=∃a m' a',r=some (a,m')/\frz m'.get deep a=some a'/\T a'
theorem RetF.st{T:AV->Prop}{a:AV}{m:Mem}(h:still a=true)(ht:T a):RetF T (some (a,m)):=⟨a,m,a,rfl,x221 _ 4 h,ht⟩
theorem RetF.tup{T:AV->Prop}{l:List AV}{m:Mem}(h:l.all still=true)(ht:T (.tup l)):RetF T (some (.tup l,m)):=⟨_,m,_,rfl,frz_tup h,ht⟩
theorem RetF.mk{T:AV->Prop}{a a':AV}{m:Mem}(h:frz m.get deep a=some a')(ht:T a'):RetF T (some (a,m)):=⟨a,m,a',rfl,h,ht⟩
theorem callF{T:AV->Prop}{call:x1wy}{f:FuncId}{l:List AV}(hl:l.all still=true)(h:RetF T (call [] f l mem0))(m:Mem):∃a,T a/\x1x1 call f l m=some (a,m):=by
 obtain⟨a,m',a',h1,h2,h3⟩:=h
 exact⟨a',h3,call0_frz hl h1 h2⟩
theorem x20b{v:AV}{call:x1wy}{f:FuncId}{l:List AV}(hl:l.all still=true)(h:RetF (fun a=>a=v) (call [] f l mem0))(m:Mem):x1x1 call f l m=some (v,m):=by
 obtain⟨a,h1,h2⟩:=callF hl h m
 rw[h2,h1]
theorem Gr.len{α:Type}{z:Nat}{enc:α->List AV}{l:List α}{a:AV}{u t:Nat}{m:Mem}{y e:TypeId}(ht:Tryz.prog.underlying y=some (.slice e))(h:Gr z enc u t m a l):sLen Tryz.prog y a=some (I l.length):=by
 rcases h with ⟨rfl,rfl⟩|⟨s,ver,rfl,hg⟩
 .exact x23j ht
 .rfl
theorem ld_fld{α:Type}{enc:α->List AV}{m:Mem}{l:List α}{k:Nat}(hk:k<l.length)(j:Nat){v:AV}(hv:((enc l[k]).drop j).head?=some v):sLd false 1 (.plit (((l.drop k).flatMap enc).drop j)) m=some v:=by
 rw[x1z2 hk,List.flatMap_cons]
 have hj:j<(enc l[k]).length:=by
  rcases Nat.lt_or_ge j (enc l[k]).length with h|h
  .exact h
  .rw[List.drop_of_length_le h]at hv;cases hv
 rw[List.drop_append_of_le_length (by omega)]
 cases hd:(enc l[k]).drop j with
 |nil=>rw[hd]at hv;cases hv
 |cons x r=>
  rw[hd]at hv
  simp at hv
  subst hv
  rfl
end Go.Ix
