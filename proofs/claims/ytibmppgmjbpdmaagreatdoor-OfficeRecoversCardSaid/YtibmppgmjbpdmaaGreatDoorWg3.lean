import Derived.Test.YtibmppgmjbpdmaaGreatDoorIxA
import Derived.Lib.AtoiAll
import Derived.Test.YtibmppgmjbpdmaaGreatDoorWg2
import Derived.Laws.Strings
set_option linter.unusedSimpArgs false
set_option linter.unusedVariables false
namespace Go.Ix
def isDig(c:UInt8):Bool:=decide (48<=c.toNat)&&decide (c.toNat<=57)
def valD(acc:Nat)(l:List UInt8):Nat:=l.foldl (λa c=>10*a+(c.toNat-48)) acc
def nbrM(l:List UInt8)(d:Nat):Option Int:=
 let r:=if l.head?=some 45 then l.tail else l
 if r=[]\/d<r.length\/(r.head?=some 48/\1<l.length)\/r.all isDig=false then none else some (if l.head?=some 45 then -(valD 0 r:Int)else valD 0 r)
theorem u8_dig{u:Nat}(h:u<10):(UInt8.ofNat (48+u)).toNat=48+u:=by
 rw[UInt8.toNat_ofNat']
 omega
theorem x1gv{u:Nat}(h:u<10):isDig (UInt8.ofNat (48+u))=true:=by
 unfold isDig
 rw[u8_dig h]
 simp;omega
theorem valD_app(acc:Nat)(l k:List UInt8):valD acc (l++k)=valD (valD acc l) k:=by
 unfold valD;rw[List.foldl_append]
theorem x1gw(acc:Nat)(c:UInt8):valD acc [c]=10*acc+(c.toNat-48):=rfl
structure Digs (l:List UInt8) (u:Nat):Prop where
 all:l.all isDig=true
 val:valD 0 l=u
 ne:l≠[]
 hd:l.head?=some 48->l=[48]
theorem x1c2:∀(k u:Nat),1<=k->u<10 ^ k->Digs (digF k u) u
 |0,u,h,_=>absurd h (by decide)
 |k+1,u,_,h=>by
  unfold digF
  by_cases c:u<10
  .rw[x1p0 c]
   refine⟨by rw[x1qp,x1gv c];rfl,?_,by simp,?_⟩
   .rw[x1gw,u8_dig c];omega
   .intro e
    simp only[List.head?_cons,x1p2]at e
    rw[e]
  .rw[x1oz c]
   have hk:1<=k:=by
    rcases k with _|k
    .simp at h;omega
    .omega
   have ih:=x1c2 k (u / 10) hk (by rw[Nat.pow_succ]at h;omega)
   have hm:u % 10<10:=x1qs _ (by omega)
   refine⟨by rw[List.all_append,ih.all,x1qp,x1gv hm];rfl,?_,by simp,?_⟩
   .rw[valD_app,ih.val,x1gw,u8_dig hm];omega
   .intro e
    rw[List.head?_append]at e
    obtain⟨x,r,hx⟩:∃x r,digF k (u / 10)=x::r:=by
     cases h2:digF k (u / 10)with
     |nil=>exact absurd h2 ih.ne
     |cons x r=>exact⟨x,r,rfl⟩
    rw[hx]at e
    have e2:x=48:=by simpa using e
    have h3:=ih.hd (by rw[hx,e2];rfl)
    have h4:=ih.val
    rw[h3]at h4
    have:valD 0 [48]=0:=rfl
    omega
theorem not45{c:UInt8}(h:isDig c=true):c≠45:=by
 rintro rfl
 exact absurd h (by decide)
def unsg(l:List UInt8):List UInt8:=if l.head?=some 45 then l.tail else l
theorem nbrM_decM{n:Int}(h0:-9223372036854775808<=n)(h1:n<=9223372036854775807)(d:Nat):nbrM (decM n) d=if(unsg (decM n)).length<=d then some n else none:=by
 unfold decM
 by_cases c:n<0
 .rw[x1p0 c]
  have hD:=x1c2 20 n.natAbs (by omega) (by omega)
  have hu:unsg (45::digF 20 n.natAbs)=digF 20 n.natAbs:=by unfold unsg;rw[x1p0 (show(45::digF 20 n.natAbs).head?=some 45 from rfl)];rfl
  rw[hu]
  unfold nbrM
  dsimp only
  rw[x1p0 (show(45::digF 20 n.natAbs).head?=some 45 from rfl),List.tail_cons]
  have hz:¬((digF 20 n.natAbs).head?=some 48/\1<(45::digF 20 n.natAbs).length):=by
   rintro⟨h2,-⟩
   have h3:=hD.val
   rw[hD.hd h2]at h3
   have:valD 0 [48]=0:=rfl
   omega
  by_cases c2:(digF 20 n.natAbs).length<=d
  .rw[x1p0 c2,x1oz (by
    rintro(h|h|h|h)
    .exact hD.ne h
    .omega
    .exact hz h
    .rw[hD.all]at h;cases h),x1p0 (show(45::digF 20 n.natAbs).head?=some 45 from rfl),hD.val]
   congr 1
   omega
  .rw[x1oz c2,x1p0 (.inr (.inl (by omega)))]
 .rw[x1oz c]
  have hD:=x1c2 20 n.toNat (by omega) (by omega)
  have hh:¬(digF 20 n.toNat).head?=some 45:=by
   cases h2:digF 20 n.toNat with
   |nil=>simp
   |cons x r=>
    have h3:=hD.all
    rw[h2,x1qp,x1p4]at h3
    simp only[List.head?_cons,x1p2]
    exact not45 h3.1
  have hu:unsg (digF 20 n.toNat)=digF 20 n.toNat:=by unfold unsg;rw[x1oz hh]
  rw[hu]
  unfold nbrM
  dsimp only
  rw[x1oz hh]
  have hz:¬((digF 20 n.toNat).head?=some 48/\1<(digF 20 n.toNat).length):=by
   rintro⟨h2,h3⟩
   rw[hD.hd h2]at h3
   simp at h3
  by_cases c2:(digF 20 n.toNat).length<=d
  .rw[x1p0 c2,x1oz (by
    rintro(h|h|h|h)
    .exact hD.ne h
    .omega
    .exact hz h
    .rw[hD.all]at h;cases h),x1oz hh,hD.val]
   congr 1
   omega
  .rw[x1oz c2,x1p0 (.inr (.inl (by omega)))]
def cutM(c:UInt8):List UInt8->List (List UInt8)
 |[]=>[[]]
 |x::r=>if x=c then[]::cutM c r else match cutM c r with
  |[]=>[[x]]
  |h::t=>(x::h)::t
theorem cutM_ne(c:UInt8):∀l,cutM c l≠[]
 |[]=>by simp[cutM]
 |x::r=>by
  unfold cutM
  split
  .simp
  .split<;>simp
theorem x1dx{c:UInt8}:∀{l:List UInt8},c∉l->cutM c l=[l]
 |[],_=>rfl
 |x::r,h=>by
  unfold cutM
  rw[x1oz (λe=>h (by rw[e];exact x1pp)),x1dx λe=>h (x1p7 _ e)]
theorem x1c3{c:UInt8}:∀{l:List UInt8} (k:List UInt8),c∉l->cutM c (l++c::k)=l::cutM c k
 |[],k,_=>by
  show cutM c (c::k)=_
  rw[cutM,x1p0 rfl]
 |x::r,k,h=>by
  rw[x1q4]
  rw[cutM]
  rw[x1oz (λe=>h (by rw[e];exact x1pp)),x1c3 k λe=>h (x1p7 _ e)]
open Go.Proofs
def RetF(T:AV->Prop)(r:O2):Prop:=∃a m' a',r=some (a,m')/\frz m'.get deep a=some a'/\T a'
theorem RetF.st{T:AV->Prop}{a:AV}{m:Mem}(h:still a=true)(ht:T a):RetF T (some (a,m)):=⟨a,m,a,rfl,x194 _ 4 h,ht⟩
theorem RetF.tup{T:AV->Prop}{l:List AV}{m:Mem}(h:l.all still=true)(ht:T (.tup l)):RetF T (some (.tup l,m)):=⟨_,m,_,rfl,frz_tup h,ht⟩
theorem RetF.mk{T:AV->Prop}{a a':AV}{m:Mem}(h:frz m.get deep a=some a')(ht:T a'):RetF T (some (a,m)):=⟨a,m,a',rfl,h,ht⟩
theorem callF{T:AV->Prop}{call:x14p}{f:FuncId}{l:List AV}(hl:l.all still=true)(h:RetF T (call [] f l mem0))(m:Mem):∃a,T a/\x14q call f l m=some (a,m):=by
 obtain⟨a,m',a',h1,h2,h3⟩:=h
 exact⟨a',h3,x1gl hl h1 h2⟩
theorem Gr.len{α:Type}{z:Nat}{enc:α->List AV}{l:List α}{a:AV}{u t:Nat}{m:Mem}{y e:TypeId}(ht:Tryz.prog.underlying y=some (.slice e))(h:Gr z enc u t m a l):sLen Tryz.prog y a=some (I l.length):=by
 rcases h with ⟨rfl,rfl⟩|⟨s,ver,rfl,hg⟩
 .exact x1c0 ht
 .rfl
theorem ld_fld{α:Type}{enc:α->List AV}{m:Mem}{l:List α}{k:Nat}(hk:k<l.length)(j:Nat){v:AV}(hv:((enc l[k]).drop j).head?=some v):sLd false 1 (.plit (((l.drop k).flatMap enc).drop j)) m=some v:=by
 rw[x1b2 hk,x1ps]
 have hj:j<(enc l[k]).length:=by
  rcases x1pq j (enc l[k]).length with h|h
  .exact h
  .rw[x1r9 h]at hv;cases hv
 rw[List.drop_append_of_le_length (by omega)]
 cases hd:(enc l[k]).drop j with
 |nil=>rw[hd]at hv;cases hv
 |cons x r=>
  rw[hd]at hv
  simp at hv
  subst hv
  rfl
abbrev Tx(l:List UInt8):AV:=T ⟨l.toArray⟩
theorem t_add(x y:Operand){a b:ByteArray}(h:a.size+b.size<=9223372036854775807):sBin Tryz.prog .add x0 x y (T a) (T b)=some (T (a++b)):=by
 have e:x150 Tryz.prog (do eqGuard .add x0 x y (.string a) (.string b);binOp .add x0 (.string a) (.string b))=some (.string (a++b)):=by
  show x150 Tryz.prog (Op.stringOp .add a b)=_
  unfold Op.stringOp
  have hm:IntKind.i64.max=9223372036854775807:=by kernel_rfl
  simp only[]
  rw[x1oz (by rw[hm];omega)]
  rfl
 refine sBin_0 ?_
 unfold bin0
 simp only[x15b]
 rw[e];rfl
theorem t_ne(x y:Operand)(a b:ByteArray):sBin Tryz.prog .neq x0 x y (T a) (T b)=some (B (!(teq a b))):=by kernel_rfl
theorem x1gx{x:Int}{n:Nat}{code:BoundsCode}(h0:0<=x)(h1:x<=n):Instr.sliceBound (.int .i64 x) n code=Pure.pure x.toNat:=by
 show(if 0<=x/\x<=n then _ else _)=_
 rw[x1p0 ⟨h0,h1⟩]
theorem sl_run{s:ByteArray}{lo hi:Option Value}{l h:Nat}(hh:(match hi with|some v=>Instr.sliceBound v s.size .sliceAlen|none=>Pure.pure s.size)=(Pure.pure h:Sem Nat))(hl:(match lo with|some v=>Instr.sliceBound v h .sliceB|none=>Pure.pure 0)=(Pure.pure l:Sem Nat)) :
 x150 Tryz.prog (Instr.sliceAt x0 (.string s) lo hi none)=some (.string (s.extract l h)):=by
 have e:Instr.sliceBounds false s.size s.size lo hi none=(Pure.pure (l,h,s.size):Sem (Nat×Nat×Nat)):=by
  unfold Instr.sliceBounds
  cases hi with
  |none=>
   cases lo with
   |none=>
    simp only[Bind.bind,Sem.bind,Pure.pure,Sem.pure.injEq]at hh hl ⊢
    subst hh hl;rfl
   |some v=>
    simp only[Bind.bind,Sem.bind,Pure.pure,Sem.pure.injEq]at hh hl ⊢
    subst hh
    simp only[x1sc,x1pj,x1p9,hl]
    rfl
  |some u=>
   cases lo with
   |none=>
    simp only[Bind.bind,Sem.bind,Pure.pure]at hh hl ⊢
    simp only[x1pj,x1p9,hh]
    injection hl with hl
    subst hl;rfl
   |some v=>
    simp only[Bind.bind,Sem.bind,Pure.pure]at hh hl ⊢
    simp only[x1pj,x1p9,hh,x1sc]
    show(Instr.sliceBound v h BoundsCode.sliceB).bind (λl=>Sem.pure (l,h,s.size))=_
    rw[hl];rfl
 simp only[Instr.sliceAt,Instr.slice,underlying,program,Bind.bind,Sem.bind,x150,Pure.pure,u_str,e,x1sc,x1pj,x1p9]
theorem sl_To{s:ByteArray}{lo:Nat}(h1:lo<=s.size):x159 Tryz.prog x0 (T s) (some (I lo)) none=some (T (s.extract lo s.size)):=by
 have e:=sl_run (s:=s) (lo:=some (.int .i64 lo)) (hi:=none) (l:=lo) (h:=s.size) rfl (x1gx (by omega) (by omega))
 show(x150 Tryz.prog (Instr.sliceAt x0 (.string s) (some (.int .i64 lo)) none none)).map x15m=_
 rw[e];rfl
theorem sl_oT{s:ByteArray}{hi:Nat}(h1:hi<=s.size):x159 Tryz.prog x0 (T s) none (some (I hi))=some (T (s.extract 0 hi)):=by
 have e:=sl_run (s:=s) (lo:=none) (hi:=some (.int .i64 hi)) (l:=0) (h:=hi) (x1gx (by omega) (by omega)) rfl
 show(x150 Tryz.prog (Instr.sliceAt x0 (.string s) none (some (.int .i64 hi)) none)).map x15m=_
 rw[e];rfl
theorem c_int(n:Int):sCvt Tryz.prog x1 x15g (U8 n)=some (I (IntKind.i64.wrap n)):=by kernel_rfl
theorem len_T(s:ByteArray):x157 (T s)=some (I s.size):=rfl
theorem x18j(l:List UInt8):(⟨l.toArray⟩:ByteArray).size=l.length:=by
 show l.toArray.size=_
 simp
theorem Tx_of(s:ByteArray):T s=Tx s.data.toList:=by
 cases s;rfl
theorem Tx_ext(l:List UInt8)(a b:Nat):(⟨l.toArray⟩:ByteArray).extract a b=⟨((l.drop a).take (b-a)).toArray⟩:=by
 apply ByteArray.ext
 rw[ByteArray.data_extract]
 apply x1ss.1
 simp[List.extract_eq_take_drop,List.take_drop]
theorem Tx_app(l k:List UInt8):(⟨l.toArray⟩:ByteArray)++⟨k.toArray⟩=⟨(l++k).toArray⟩:=by
 apply ByteArray.ext
 rw[ByteArray.data_append]
 simp
theorem x181(x y:Operand){l k:List UInt8}(h:l.length+k.length<=9223372036854775807):sBin Tryz.prog .add x0 x y (Tx l) (Tx k)=some (Tx (l++k)):=by
 rw[t_add x y (by rw[x18j,x18j];exact h),Tx_app]
theorem x16c(l:List UInt8):x157 (Tx l)=some (I l.length):=by rw[len_T,x18j]
theorem x_slo{l:List UInt8}{lo:Nat}(h1:lo<=l.length):x159 Tryz.prog x0 (Tx l) (some (I lo)) none=some (Tx (l.drop lo)):=by
 rw[sl_To (by rw[x18j];exact h1),Tx_ext,x18j,x1pf (by simp)]
theorem x_slh{l:List UInt8}{hi:Nat}(h1:hi<=l.length):x159 Tryz.prog x0 (Tx l) none (some (I hi))=some (Tx (l.take hi)):=by
 rw[sl_oT (by rw[x18j];exact h1),Tx_ext,x1po,Nat.sub_zero]
theorem x_idx{l:List UInt8}{k:Nat}(h:k<l.length):sIdx Tryz.prog x0 (Tx l) (I k)=some (U8 (l[k]).toNat):=by
 rw[idx_T (s:=⟨l.toArray⟩) (by simpa using h)]
theorem teq_Tx(l k:List UInt8):teq ⟨l.toArray⟩ ⟨k.toArray⟩=decide (l=k):=by
 unfold teq
 rw[ByteArray.toList_eq,ByteArray.toList_eq,Bool.eq_iff_iff]
 simp
theorem x_eq(x y:Operand)(l k:List UInt8):sBin Tryz.prog .eql x0 x y (Tx l) (Tx k)=some (B (decide (l=k))):=by rw[t_eq,teq_Tx]
theorem x_ne(x y:Operand)(l k:List UInt8):sBin Tryz.prog .neq x0 x y (Tx l) (Tx k)=some (B (!(decide (l=k)))):=by rw[t_ne,teq_Tx]
end Go.Ix
