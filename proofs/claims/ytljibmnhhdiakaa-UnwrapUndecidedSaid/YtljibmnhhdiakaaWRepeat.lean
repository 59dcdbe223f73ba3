import Derived.Test.YtljibmnhhdiakaaWConcat
set_option linter.unusedSimpArgs false
set_option linter.unusedVariables false
set_option maxRecDepth 100000
namespace Go.Ix
open Go.Proofs
def isU(n:Nat):Option AV->Bool
 |some (.sc (.int .u64 k))=>decide (k=(n:Int))
 |_=>false
def isI(n:Nat):Option AV->Bool
 |some (.sc (.int .i64 k))=>decide (k=(n:Int))
 |_=>false
def isF:Option AV->Bool
 |some (.sc (.bool b))=>!b
 |_=>false
def is2(a b:Nat):Option (AV×Mem)->Bool
 |some (.tup [.sc (.int .u64 k),.sc (.int .u64 j)],_)=>decide (k=(a:Int))&&decide (j=(b:Int))
 |_=>false
theorem isU_eq{n:Nat}{r:Option AV}(h:isU n r=true):r=some (.sc (.int .u64 n)):=by
 unfold isU at h
 split at h
 .rw[of_decide_eq_true h]
 .cases h
theorem isI_eq{n:Nat}{r:Option AV}(h:isI n r=true):r=some (I n):=by
 unfold isI at h
 split at h
 .rw[of_decide_eq_true h]
 .cases h
theorem isF_eq{r:Option AV}(h:isF r=true):r=some (B false):=by
 unfold isF at h
 split at h
 .rename_i b
  cases b
  .rfl
  .cases h
 .cases h
theorem is2_eq{a b:Nat}{r:Option (AV×Mem)}(h:is2 a b r=true):∃m,r=some (.tup [.sc (.int .u64 a),.sc (.int .u64 b)],m):=by
 unfold is2 at h
 split at h
 .rename_i k j m
  rw[Bool.and_eq_true]at h
  exact⟨m,by rw[of_decide_eq_true h.1,of_decide_eq_true h.2]⟩
 .cases h
theorem tab{f:Nat->Bool}{N:Nat}(h:(List.range N).all f=true){n:Nat}(hn:n<N):f n=true:=List.all_eq_true.mp h n (List.mem_range.mpr hn)
abbrev Uv(n:Nat):AV:=.sc (.int .u64 n)
theorem t_cvt:(List.range 201).all (fun n=>isU n (sCvt Try.prog x1sq x12 (I n)))=true:=by kernel_rfl
theorem t_cvt2:(List.range 201).all (fun n=>isI n (sCvt Try.prog x12 x1sq (Uv n)))=true:=by kernel_rfl
theorem t_mul(d:Nat):(List.range 201).all (fun n=>is2 0 n (x1qp (d+2) [] x6s [Uv 1,Uv n] mem0))=true:=by kernel_rfl
theorem t_gt(x y:Operand):(List.range 201).all (fun n=>isF (sBin Try.prog .gtr x12 x y (Uv n) (AV.sc (.int .u64 9223372036854775807))))=true:=by kernel_rfl
theorem t_gt0(x y:Operand):sBin Try.prog .gtr x12 x y (Uv 0) (AV.sc (.int .u64 0))=some (B false):=by kernel_rfl
theorem w_cvt{n:Nat}(h:n<=200):sCvt Try.prog x1sq x12 (I n)=some (Uv n):=isU_eq (tab t_cvt (by omega))
theorem w_cvt2{n:Nat}(h:n<=200):sCvt Try.prog x12 x1sq (Uv n)=some (I n):=isI_eq (tab t_cvt2 (by omega))
theorem w_gt{n:Nat}(h:n<=200)(x y:Operand):sBin Try.prog .gtr x12 x y (Uv n) (AV.sc (.int .u64 9223372036854775807))=some (B false):=isF_eq (tab (t_gt x y) (by omega))
theorem w_mul(d:Nat){n:Nat}(h:n<=200)(m:Mem):x1qq (x1qp (d+2)) x6s [Uv 1,Uv n] m=some (.tup [Uv 0,Uv n],m):=by
 obtain⟨m',h'⟩:=is2_eq (tab (t_mul d) (show n<201 by omega))
 exact Ans.call0_tup ⟨m',h'⟩ rfl rfl
theorem cpy_own{R:Type}{id:Id}{m:Mem}{l k:List Int}{off n2:Nat}{f:Bool}{src:AV}{K:AV->Mem->Option R}(hg:m.get id=some (.row (l.flatMap intE) 0 false))(hs:elems m.get 1 src=some (k.flatMap intE,k.length))(hn:off+n2<=l.length) :
 sCpy 1 (.sref id 0 off n2 1 f) src m K=K (I (Nat.min k.length n2)) (m.set id (.row ((l.take off++(k.take (Nat.min k.length n2)++l.drop (off+Nat.min k.length n2))).flatMap intE) 0 false)):=by
 have hl:=x1th l
 simp only[sCpy,hs,hg]
 have hc:True/\True/\off+n2*1<=(l.flatMap intE).length:=⟨trivial,trivial,by omega⟩
 rw[if_pos hc]
 congr 3
 have hk:k.length=(k.flatMap intE).length:=(x1th k).symm
 simp only[x1rc,x1us,List.map_append,List.map_take,List.map_drop,Nat.mul_one,List.length_take,List.length_map]
 congr 3
 have:Nat.min (Nat.min k.length n2) k.length=Nat.min k.length n2:=by
  simp only[Nat.min_def];split<;>split<;>omega
 exact congrArg (off+·) this
theorem elems_own{m:Mem}{id:Id}{l:List Int}{off n:Nat}{f:Bool}(hg:m.get id=some (.row (l.flatMap intE) 0 false))(h:off+n<=l.length):elems m.get 1 (.sref id 0 off n 1 f)=some (((l.drop off).take n).flatMap intE,((l.drop off).take n).length):=by
 have hl:=x1th l
 simp only[elems,hg]
 have hc:True/\True/\off+n*1<=(l.flatMap intE).length:=⟨trivial,trivial,by omega⟩
 rw[if_pos hc]
 simp only[x1us,List.map_take,List.map_drop,Nat.mul_one,List.length_take,List.length_drop]
 congr 2
 omega
theorem l_Repeat(d:Nat)(hs:FHs)(u:Nat)(x:Int){n:Nat}(hn:n<=200)(id:Id):∀(s k j:Nat) (m:Mem) (fc:Nat),k+s=n->1<=k->s<j->m.get id=some (.row ((List.replicate k x++List.replicate s 0).flatMap intE) 0 false) ->
 ∃m',x2s (x1qp d) hs u j (.sref id 0 0 n 1 true) (I k) m fc=some (.sref id 0 0 n 1 true,m')/\m'.get id=some (.row ((List.replicate n x).flatMap intE) 0 false)/\m'.next=m.next:=by
 intro s
 induction s using Nat.strongRecOn with
 |_ s ih=>
  intro k j m fc hk h1 hj hg
  obtain⟨j,rfl⟩:∃i,j=i+1:=⟨j-1,by omega⟩
  have hlen:sLen Try.prog x5 (.sref id 0 0 n 1 true)=some (I n):=rfl
  simp only[x2s]
  unfold xd5
  by_cases h0:s=0
  .subst h0
   have hkn:k=n:=by omega
   subst hkn
   refine⟨m,?_,by simpa using hg,rfl⟩
   simp[hlen,x52]
  .have hlt:(k:Int)<(n:Int):=by omega
   have e1:=x251 (id:=id) (ver:=0) (off:=0) (n:=n) (full:=true) (lo:=(k:Int)) (by omega) (by omega)
   have e2:=x250 (id:=id) (ver:=0) (off:=0) (n:=n) (full:=true) (hi:=(k:Int)) (by omega) (by omega)
   simp only[Int.toNat_natCast,Nat.zero_add]at e1 e2
   have hel:=elems_own (m:=m) (id:=id) (off:=0) (n:=k) (f:=true) hg (by simp)
   rw[List.drop_zero,List.take_append_of_le_length (by simp),List.take_of_length_le (by simp)]at hel
   have hc:=fun(K:AV->Mem->Option (AV×Mem))=>cpy_own (K:=K) (off:=k) (n2:=n-k) (f:=true) hg hel (by simp;omega)
   have hmin:Nat.min (List.replicate k x).length (n-k)=min k s:=by simp only[List.length_replicate];show min k (n-k)=_;rw[show n-k=s by omega]
   rw[hmin]at hc
   have hrow:(List.replicate k x++List.replicate s 0).take k++((List.replicate k x).take (min k s)++(List.replicate k x++List.replicate s 0).drop (k+min k s))=List.replicate (k+min k s) x++List.replicate (s-min k s) 0:=by
    rw[List.take_append_of_le_length (by simp),List.take_of_length_le (by simp),List.take_replicate,Nat.min_eq_left (show min k s<=k from Nat.min_le_left _ _)]
    rw[List.drop_append,List.drop_eq_nil_of_le (by simp),List.nil_append,List.length_replicate,Nat.add_sub_cancel_left,List.drop_replicate,<-List.append_assoc,List.replicate_append_replicate]
   rw[hrow]at hc
   obtain⟨m',h5,h6,h7⟩:=ih (s-min k s) (by omega) (k+min k s) j (m.set id (.row ((List.replicate (k+min k s) x++List.replicate (s-min k s) 0).flatMap intE) 0 false)) (fc+14) (by omega) (by omega) (by omega) (by simp)
   refine⟨m',?_,h6,by rw[h7];rfl⟩
   simp(disch:=omega)only[hlen,x1qt,x1s6,hlt,decide_true,x1ru,e1,e2,hc,x1sl,x1rs]
   rw[<-h5]
   congr 2
theorem x255(d:Nat)(u:Nat)(x:Int){n:Nat}(hn:n<=200):∃s m',x1qp (d+3) [] x2d [.slit [I x] 1 true,I n] ⟨[],u⟩=some (.sref (u,s,30) 0 0 n 1 true,m')/\m'.get (u,s,30)=some (.row ((List.replicate n x).flatMap intE) 0 false)/\m'.next=u+1:=by
 have hc1:=w_cvt (n:=1) (by omega)
 have hcn:=w_cvt hn
 have hcn2:=w_cvt2 hn
 have hg:=w_gt hn
 have hm:=w_mul d hn
 have hmk:∀(id:Id) (m:Mem) (k:AV->Mem->Option (AV×Mem)),x1ry x1rf 1 8 (I n) (I n) id m k=k (srI id n) (m.new id (.row ((List.replicate n (0:Int)).flatMap intE) 0 false)):=by
  intro id m k
  rw[x1t8,x1wh (by omega) (by omega)]
  simp
 have hneg:¬((n:Int)<0):=by omega
 have hlen1:sLen Try.prog x5 (.slit [I x] 1 true)=some (I ((1:Nat):Int)):=rfl
 have hlenN:∀id,sLen Try.prog x5 (.sref id 0 0 n 1 true)=some (I n):=fun _=>rfl
 obtain⟨M,hM⟩:∃M,M=(⟨[],u+1⟩:Mem).new (u,1+2+11+6+2,30) (.row ((List.replicate n (0:Int)).flatMap intE) 0 false):=⟨_,rfl⟩
 have hgM:M.get (u,1+2+11+6+2,30)=some (.row ((List.replicate n (0:Int)).flatMap intE) 0 false):=by rw[hM];simp
 have hel:elems M.get 1 (.slit [I x] 1 true)=some (([x]:List Int).flatMap intE,[x].length):=rfl
 have hcp:=fun(K:AV->Mem->Option (AV×Mem))=>cpy_own (K:=K) (off:=0) (n2:=n) (f:=true) hgM hel (by simp)
 have start:∀K,sCpy 1 (srI (u,1+2+11+6+2,30) n) (.slit [I x] 1 true) M (fun t33 m_3=>x2s (x1qp (d+2)) [] u NN (srI (u,1+2+11+6+2,30) n) t33 m_3 (1+2+11+6+8))=K ->
  x1qp (d+3) [] x2d [.slit [I x] 1 true,I n] ⟨[],u⟩=K:=by
  intro K hK
  rw[<-hK,x10c]
  unfold xez xhe xd9 xd8
  simp only[x1s6,x1qt,hneg,decide_false,x1sz,hlen1,hc1,hcn,hm,x220,List.getElem?_cons_zero,List.getElem?_cons_succ]
  unfold xd7
  simp only[t_gt0,x1qt,sW_f,Bool.not_false,x1qw,hg,sPick_B,x1z3,x1sz]
  unfold xd6
  simp only[hcn2,x1qt,hmk]
  rw[<-hM]
 by_cases h0:n=0
 .subst h0
  refine⟨22,M.set (u,22,30) (.row [] 0 false),start _ ?_,by simp,by rw[hM];rfl⟩
  rw[hcp]
  obtain⟨j,hj⟩:=NN_3
  rw[hj]
  simp only[x2s]
  unfold xd5
  have e:Nat.min [x].length 0=0:=rfl
  simp[hlenN,e,x52]
 .have hmin:Nat.min [x].length n=1:=by simp only[List.length_cons,List.length_nil];show min 1 n=1;omega
  rw[hmin]at hcp
  have hrow:(List.replicate n (0:Int)).take 0++([x].take 1++(List.replicate n 0).drop (0+1))=List.replicate 1 x++List.replicate (n-1) 0:=by simp[List.drop_replicate]
  rw[hrow]at hcp
  obtain⟨m',h1,h2,h3⟩:=l_Repeat (d+2) [] u x hn (u,22,30) (n-1) 1 NN (M.set (u,22,30) (.row ((List.replicate 1 x++List.replicate (n-1) 0).flatMap intE) 0 false)) 28 (by omega) (by omega) (by rw[x1r6];omega) (by simp)
  refine⟨22,m',start _ ?_,h2,by rw[h3,hM];rfl⟩
  rw[hcp]
  exact h1
theorem call4{call:x1qo}{f:FuncId}{l l':List AV}{m m':Mem}{r:AV}{ids:List Id}(hl:l.mapM (frz m.get deep)=some l')(h:call [] f l' ⟨[],m.next⟩=some (r,m'))(hr:x1xn r=true)(hids:x1r1 m'.get deep r=ids)(hall:∀i∈ids,m.next<=i.1/\∃cs v,m'.get i=some (.row cs v false)/\cs.all isSc=true):∃M:Mem,x1vq call f l m=some (r,M)/\M.next=m'.next/\∀i,M.get i=if i∈ids then m'.get i else m.get i:=by
 refine⟨⟨x1xw m'.hp (x1r1 m'.get deep r) m.hp,m'.next⟩,?_,rfl,?_⟩
 .unfold x1vq
  rw[hl]
  simp only[h]
  rw[if_pos]
  rw[hr,Bool.true_and,hids,List.all_eq_true]
  intro i hi
  obtain⟨h1,cs,v,h2,h3⟩:=hall i hi
  rw[h2]
  simp[h1,h3]
 .intro i
  rw[hids]
  exact x21t m'.hp ids m.hp (fun i hi=>by obtain⟨_,cs,v,h2,_⟩:=hall i hi;exact⟨_,h2⟩) i
theorem x256{objs:Id->Option Ob}{k:Nat}:∀{l:List AV},l.all isSc=true->l.flatMap (x1r1 objs k)=[]
 |[],_=>rfl
 |a::l,h=>by
  rw[List.all_cons,Bool.and_eq_true]at h
  rw[List.flatMap_cons,x256 h.2,List.append_nil]
  cases a with
  |sc v=>cases k<;>rfl
  |_=>simp[isSc]at h
theorem x1ww{objs:Id->Option Ob}{k:Nat}{id:Id}{ver off n z:Nat}{f:Bool}{cs:List AV}{v:Nat}(h:objs id=some (.row cs v false))(hs:cs.all isSc=true):x1r1 objs (k+1) (.sref id ver off n z f)=[id]:=by
 simp only[x1r1,h]
 rw[x256]
 rw[List.all_eq_true]at hs ⊢
 exact fun x hx=>hs x (List.mem_of_mem_drop (List.mem_of_mem_take hx))
end Go.Ix
