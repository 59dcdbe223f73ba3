import Derived.Test.YtdcffnlnagmbhaaGreatDoorWg15
import Derived.Test.YtdcffnlnagmbhaaGreatDoorWg9
import Derived.Test.YtdcffnlnagmbhaaGreatDoorWg14
import Derived.Test.YtdcffnlnagmbhaaGreatDoorWg13
set_option linter.unusedSimpArgs false
set_option linter.unusedVariables false
set_option maxRecDepth 10000
namespace Go.Ix
open Go.Proofs
theorem e_Concat3(d:Nat)(a b c e f g h:Int):((xpc (d+3) [] x1t [.slit [.slit [I a] 1 true,.slit [I b,I c,I e] 3 false,.slit [I f,I g,I h] 3 false] 3 false] mem0).bind λp=>frz p.2.get deep p.1)=some (.slit [I a,I b,I c,I e,I f,I g,I h] 7 false):=by kernel_rfl
theorem w_Concat3(d:Nat)(a b c e f g h:Int)(m:Mem):xp9 (xpc (d+3)) x1t [.slit [.slit [I a] 1 true,.slit [I b,I c,I e] 3 false,.slit [I f,I g,I h] 3 false] 3 false] m=some (.slit [I a,I b,I c,I e,I f,I g,I h] 7 false,m):=
 callV rfl (retF_e (e_Concat3 d a b c e f g h)) m
theorem x138(k:Nat){a b c d e f g:Int}(hb:∀n∈[a,b,c,d,e,f,g],I64 n)(m:Mem):xp9 (xpc (k+4)) x1a [.agg [I a,I b,I c,I d,I e,I f,I g]] m=some (Tx (xq0 [a,b,c,d,e,f,g]),m):=by
 refine Ans.call0 (m:=m) ?_ rfl rfl
 unfold Ans
 rw[xkb]
 unfold x6i x51
 have hx:Ints (.slit [I a,I b,I c,I d,I e,I f,I g] 7 false) [a,b,c,d,e,f,g]:=Or.inr ⟨false,rfl⟩
 have hj:=λm=>w_join3 (k+1) hx hb (by simp) m
 obtain⟨m1,hm1⟩:∃m1:Mem,m1=(⟨[],1⟩:Mem).new (0,0,1) (.row [I a,I b,I c,I d,I e,I f,I g] 0 false):=⟨_,rfl⟩
 have q1:m1.get (0,0,1)=some (.row [I a,I b,I c,I d,I e,I f,I g] 0 false):=by rw[hm1];simp
 obtain⟨m2,hm2⟩:∃m2:Mem,m2=m1.new (0,9,10) (.row [.slit [I a] 1 true,.sref (0,0,1) 0 1 3 1 false,.sref (0,0,1) 0 4 3 1 false] 0 false):=⟨_,rfl⟩
 have q2:m2.get (0,9,10)=some (.row [.slit [I a] 1 true,.sref (0,0,1) 0 1 3 1 false,.sref (0,0,1) 0 4 3 1 false] 0 false):=by rw[hm2];simp
 have q2b:m2.get (0,0,1)=some (.row [I a,I b,I c,I d,I e,I f,I g] 0 false):=by rw[hm2,Mem.get_new,x16t (by simp)];exact q1
 have hfz:[AV.sref (0,9,10) 0 0 3 1 true].mapM (Go.Ix.frz m2.get deep)=some [.slit [.slit [I a] 1 true,.slit [I b,I c,I d] 3 false,.slit [I e,I f,I g] 3 false] 3 false]:=by
  rw[hm2,hm1];rfl
 have hcc:=x10z (m:=m2) hfz rfl (w_Concat3 k a b c d e f g)
 have hlit:∀{R:Type} (K:AV->Mem->Option R),xpy x36 [(0,1,.slit [I a] 1 true),(1,1,.sref (0,0,1) 0 1 3 1 false),(2,1,.sref (0,0,1) 0 4 3 1 false)] 3 1 (0,9,10) m1 K=K (.sref (0,9,10) 0 0 3 1 true) m2:=λK=>by
  rw[hm2];rfl
 have hl1:∀{R:Type} (K:AV->Mem->Option R) (id:Id),xpy xqz [(0,1,I a)] 1 1 id m1 K=K (.slit [I a] 1 true) m1:=λK id=>by
  simp[xpy,xqs,xqa,xve,x1a1,xpo]
 have sl1:sSlA 3 1 (.ptr (0,0,1) 0 1) none none m1=some (.sref (0,0,1) 0 1 3 1 false):=by simp[sSlA,q1,asI]
 have sl2:sSlA 3 1 (.ptr (0,0,1) 0 4) none none m1=some (.sref (0,0,1) 0 4 3 1 false):=by simp[sSlA,q1,asI]
 have ho:[I a,I b,I c,I d,I e,I f,I g].all AV.one=true:=rfl
 simp only[mem0,xxw,x10l,ho,xqc,x17n]
 rw[<-hm1]
 have ld:sLd false 1 (.ptr (0,0,1) 0 0) m1=some (I a):=by rw[xw2 q1];rfl
 simp only[sFA_ptr,x17n,xpe,ld,hl1,sl1,sl2,hlit,hcc,hj]
 exact⟨_,rfl⟩
section
variable{n a b d e f g h i:Int}
end
end Go.Ix
namespace Go.Ix.Th
section
variable{l:List Mp}
end
end Go.Ix.Th
namespace Go.Ix
open Go.Proofs
attribute [local simp high] rdP_5
variable{a:AV}{l:List Mp}
end Go.Ix
