import Derived.Test.YtklcdahoajabmaaWg6
set_option linter.unusedSimpArgs false
set_option linter.unusedVariables false
namespace Go.Ix
open Go.Proofs
section
variable{n a b d e f g h i:Int}
end
theorem l_div3(call:xcw)(hs:FHs)(u:Nat)(m:Mem):∀(n:Nat) (a b:Int) (j fc:Nat),b.natAbs<2 ^ n->2*n+1<=j ->
 ∃fc',x12 call hs u j (I a) (I b) m fc=x5b call hs u (I (eG a b)) m fc':=by
 intro n
 induction n with
 |zero=>
  intro a b j fc h hj
  obtain⟨j,rfl⟩:∃i,j=i+1:=⟨j-1,by omega⟩
  have:b=0:=by simp at h;omega
  subst this
  simp only[x12]
  unfold x2u
  exact⟨fc+2,by simp[eG_0]⟩
 |succ n ih=>
  intro a b j fc h hj
  obtain⟨j,rfl⟩:∃i,j=i+1+1:=⟨j-2,by omega⟩
  by_cases hb:b=0
  .subst hb
   simp only[x12]
   unfold x2u
   exact⟨fc+2,by simp[eG_0]⟩
  .have e1:(a.tmod b).natAbs=a.natAbs % b.natAbs:=Int.natAbs_tmod a b
   rw[eG_s hb]
   by_cases hc:a.tmod b=0
   .refine⟨fc+8+2,?_⟩
    simp only[x12]
    unfold x2u
    simp[hb,xi8 hb,hc,eG_0]
   .have e2:(b.tmod (a.tmod b)).natAbs=b.natAbs % (a.natAbs % b.natAbs):=by rw[Int.natAbs_tmod,e1]
    have h2:=mod_half (a:=a.natAbs) (b:=b.natAbs) (by omega) (by omega)
    obtain⟨fc',hf⟩:=ih (a.tmod b) (b.tmod (a.tmod b)) j (fc+8+8) (by rw[e2];have:=Nat.pow_succ 2 n;omega) (by omega)
    refine⟨fc',?_⟩
    rw[eG_s hc,<-hf]
    simp only[x12]
    unfold x2u
    simp[hb,xi8 hb,hc,xi8 hc]
theorem eG_bd{a b:Int}(ha:bd a 4000000000000000000)(hb:bd b 4000000000000000000):bd (eG a b) 4000000000000000000:=by
 have hg:(eG a b).natAbs=Int.gcd a b:=eG_gcd b.natAbs a b (xth _)
 rw[bd.abs]at *
 rw[hg]
 by_cases h:b=0
 .subst h
  simpa using ha
 .have h1:((Int.gcd a b:Nat):Int) ∣ b:=Int.gcd_dvd_right a b
  have h2:=Int.natAbs_dvd_natAbs.mpr h1
  have h3:=Nat.le_of_dvd (by omega) h2
  simp at h3
  omega
theorem xr3(k:Nat){a b:Int}(ha:bd a 4000000000000000000)(hb:bd b 4000000000000000000)(m:Mem):xcv (xcu (k+2)) x2c [I a,I b] m=some (I (Int.gcd a b:Int),m):=by
 refine xd3 rfl ?_ m
 have hbd:=eG_bd ha hb
 unfold bd at hbd hb
 obtain⟨fc',h⟩:=l_div3 (xcu (k+1)) [] 0 ⟨[],1⟩ 64 a b NN 1 (by omega) (by rw[xdy];omega)
 rw[xaa]
 unfold x72 x5c
 simp only[mem0]
 rw[h]
 unfold x5b
 have e:(xcu (k+1))=xcu (k+1):=rfl
 have hs:xcv (xcu (k+1)) xe [I (eG a b)] (⟨[],1⟩:Mem)=some (I ((eG a b).natAbs:Int),⟨[],1⟩):=by
  refine call0 rfl (m':=⟨[],1⟩) ?_ rfl
  rw[x91]
  unfold x3o x3f
  simp(disch:=omega) [mem0]
  split<;>omega
 rw[hs,eG_gcd b.natAbs a b (xth _)]
 exact RetF.st rfl rfl
attribute [local simp high] rd_5
variable{a:AV}{l:List Mp}
attribute [local simp high] rd_5
variable{a:AV}{l:List Mp}
attribute [local simp high] rd_5
variable{a:AV}{l:List Mp}
end Go.Ix
