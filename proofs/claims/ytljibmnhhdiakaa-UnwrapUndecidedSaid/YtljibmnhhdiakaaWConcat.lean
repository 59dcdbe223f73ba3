import Derived.Test.YtljibmnhhdiakaaWBase3
set_option linter.unusedSimpArgs false
set_option linter.unusedVariables false
namespace Go.Ix
open Go.Proofs
theorem x1vx:x13=[nilS]:=by kernel_rfl
theorem NN_3:∃j,NN=j+3:=⟨1048573,rfl⟩
theorem x229(n:Nat)(h:n<=1000000):x1r4 n 8:=by unfold x1r4;omega
theorem a_Grow(d:Nat)(u:Nat){n:Int}(h0:0<n)(h1:n<=1000000):∃s m',x1qp (d+1) [] x5r [nilS,I n] ⟨[],u⟩=some (.sref (u,s,22) 0 0 0 1 true,m')/\m'.get (u,s,22)=some (.row (x1rd [I 0] n.toNat) 0 false)/\m'.next=u+1:=by
 refine⟨18,(⟨[],u+1⟩:Mem).new (u,18,22) (.row (x1rd [I 0] n.toNat) 0 false),?_,by simp,rfl⟩
 rw[xl4]
 unfold xac xcr x9g x78
 have hn:¬n<0:=by omega
 have hm:x1xu x1rf 1 8 (I n)=some (x1rd [I 0] n.toNat,n.toNat):=by
  simp only[x1xu,asI,x1t8]
  rw[if_pos ⟨by omega,by omega,by omega⟩,Nat.mul_one]
 have hlen:sLen Try.prog x5 nilS=some (I 0):=x1y3 x1r8
 have hA:∀(m:Mem) (K:AV->Mem->Option (AV×Mem)),sApp 1 8 (u,18,22) (some (x1rd [I 0] n.toNat,n.toNat)) nilS m K=K (.sref (u,18,22) 0 0 n.toNat 1 true) (m.new (u,18,22) (.row (x1rd [I 0] n.toNat) 0 false)):=by
  intro m K
  simp only[sApp]
  rw[if_neg (by omega),if_pos (x229 _ (by omega))]
 simp(disch:=omega) [hn,cap_nil,x283,hm,hlen,h0,hA,x250,x77]
theorem x254(d:Nat){a b:AV}{k l:List Int}(ha:Ints a k)(hb:Ints b l)(hk:k.length<=300000)(hl:l.length<=300000)(m:Mem) :
 ∃c,Ints c (k++l)/\x1qq (x1qp (d+2)) x3w [.slit [a,b] 2 true] m=some (c,m):=by
 have key:∃c m' c',x1qp (d+2) [] x3w [.slit [a,b] 2 true] mem0=some (c,m')/\Ints c' (k++l)/\frz m'.get deep c=some c':=by
  rw[xzg]
  unfold xeg xgl xbt
  obtain⟨j,hj⟩:=NN_3
  have hlen:sLen Try.prog xbq (.slit [a,b] 2 true)=some (I 2):=rfl
  have i0:sIx 1 (.slit [a,b] 2 true) (I 0)=some (.plit [a,b]):=rfl
  have i1:sIx 1 (.slit [a,b] 2 true) (I 1)=some (.plit [b]):=rfl
  have l0:∀m,sLd false 1 (.plit [a,b]) m=some a:=fun _=>rfl
  have l1:∀m,sLd false 1 (.plit [b]) m=some b:=fun _=>rfl
  have e0:=fun m:Mem=>ha.elems x1rk m.get
  have e1:=fun m:Mem=>hb.elems x1rk m.get
  simp only[mem0,hlen,x1qt,hj,x6y,xgk,xbs,xbr]
  have hn0:¬((0:Int)+k.length<0):=by omega
  by_cases h0:k.length+l.length=0
  .have hk0:k=[]:=List.length_eq_zero_iff.mp (by omega)
   have hl0:l=[]:=List.length_eq_zero_iff.mp (by omega)
   subst hk0 hl0
   have hG:x1qp (d+1) [] x5r [nilS,I 0] ⟨[],1⟩=some (nilS,⟨[],2⟩):=by
    rw[xl4]
    unfold xac xcr x9g x78
    have hln:sLen Try.prog x5 nilS=some (I 0):=x1y3 x1r8
    simp[cap_nil,hln,x77]
   obtain⟨M,hM,hMn,hMg⟩:=x1vw (m:=⟨[],1⟩) (l:=[nilS,I 0]) rfl hG
   refine⟨nilS,M,nilS,?_,Or.inl ⟨rfl,rfl⟩,rfl⟩
   have hS:∀(id0:Id) (K:AV->Mem->Option (AV×Mem)),sApp 1 8 id0 (some ([],0)) nilS M K=K nilS M:=fun _ _=>rfl
   have e0':=e0 M
   have e1':=e1 M
   simp only[List.flatMap_nil,List.length_nil]at e0' e1'
   simp[i0,i1,l0,l1,ha.len x1r8,hb.len x1r8,x1m,hM,x8z,hlen,hj,x6a,xbp,e0',e1',hS,x36]
  .obtain⟨s,mg,hG,hgg,hgn⟩:=a_Grow d 1 (n:=(k.length:Int)+l.length) (by omega) (by omega)
   obtain⟨M,hM,hMn,hMg⟩:=x1vw (m:=⟨[],1⟩) (l:=[nilS,I ((k.length:Int)+l.length)]) rfl hG
   have hz:((k.length:Int)+l.length).toNat=k.length+l.length:=by omega
   have hg0:M.get (1,s,22)=some (.row (([]:List Int).flatMap intE++x1rd [I 0] (k.length+l.length)) 0 false):=by
    rw[hMg,if_pos (Nat.le_refl _),hgg,hz];rfl
   have hzl:(x1rd [I 0] (k.length+l.length)).length=k.length+l.length:=by simp[x1rd]
   obtain⟨m1,A1,g1,n1⟩:=x24z (l:=[]) (k:=k) hg0 (by omega) (x229 _ (by simp;omega))
   obtain⟨m2,A2,g2,n2⟩:=x24z (l:=[]++k) (k:=l) g1 (by simp only[List.length_drop,hzl];omega) (x229 _ (by simp;omega))
   simp only[List.nil_append,List.length_nil]at A1 A2 g1 g2
   refine⟨.sref (1,s,22) 0 0 (k++l).length 1 true,m2,.slit ((k++l).flatMap intE) (k++l).length false,?_,Sl.lit _ _,?_⟩
   .simp(disch:=omega)only[i0,i1,l0,l1,ha.len x1r8,hb.len x1r8,x1m,x8z,hlen,hj,x6a,xbp,e0,e1,A1,A2,x36,x1qt,x1s6,x1sl,x1rs,x1ru,x1sz,decide_eq_true,decide_eq_false,Int.zero_add,hM,show((1:Int)+1=2)from rfl]
   .have h3:=x1th (k++l)
    have h4:((k++l).flatMap intE++((x1rd [I 0] (k.length+l.length)).drop k.length).drop l.length).take ((k++l).length*1)=(k++l).flatMap intE:=by
     rw[List.take_append_of_le_length (by omega),List.take_of_length_le (by omega)]
    have:=x1v4 (objs:=m2.get) (id:=(1,s,22)) (cs:=(k++l).flatMap intE++((x1rd [I 0] (k.length+l.length)).drop k.length).drop l.length) (ver:=0) (off:=0) (n:=(k++l).length) (z:=1) (k:=4) (f:=false) (x:=true) g2 (by have:=h3;simp only[List.length_append]at this ⊢;omega) (by
     rw[List.drop_zero,h4];exact x1ur x1wf _)
    rw[List.drop_zero,h4]at this
    exact this
 obtain⟨c,m',c',h1,h2,h3⟩:=key
 refine⟨c',h2,x1t6 ?_ h1 h3⟩
 simp[ha.still1,hb.still1]
end Go.Ix
