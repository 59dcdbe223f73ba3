import Derived.Test.YtibmppgmjbpdmaaGreatDoorIxA
import Derived.Lib.AtoiAll
import Derived.Test.YtibmppgmjbpdmaaGreatDoorWg2
import Derived.Laws.Strings
set_option linter.unusedSimpArgs false
set_option linter.unusedVariables false
namespace Go.Ix
def isDig(c:UInt8):Bool:=decide (48<=c.toNat)&&decide (c.toNat<=57)
def valD(acc:Nat)(l:List UInt8):Nat:=l.foldl (λa c=>10*a+(c.toNat-48)) acc
def nbrM(l:List UInt8)(d:Nat):Option Int:=
 let r:=if l.head?=some 45 then l.tail else l
 if r=[]\/d<r.length\/(r.head?=some 48/\1<l.length)\/r.all isDig=false then none else some (if l.head?=some 45 then -(valD 0 r:Int)else valD 0 r)
theorem x1ck{a b:UInt8}(h:a.toNat=b.toNat):a=b:=UInt8.toNat_inj.1 h
theorem x1df{u:Nat}(h:u<10):(UInt8.ofNat (48+u)).toNat=48+u:=by
 rw[UInt8.toNat_ofNat']
 omega
theorem x1j6{u:Nat}(h:u<10):isDig (UInt8.ofNat (48+u))=true:=by
 unfold isDig
 rw[x1df h]
 simp;omega
theorem x1ej{c:UInt8}(h:isDig c=true):48<=c.toNat/\c.toNat<=57:=by
 unfold isDig at h
 simpa using h
theorem x1g7(acc:Nat)(l k:List UInt8):valD acc (l++k)=valD (valD acc l) k:=by
 unfold valD;rw[List.foldl_append]
theorem x1dg(acc:Nat)(c:UInt8):valD acc [c]=10*acc+(c.toNat-48):=rfl
theorem valD_ge:∀(l:List UInt8) (acc:Nat),acc<=valD acc l
 |[],acc=>x1rz _
 |c::r,acc=>by
  have:=valD_ge r (10*acc+(c.toNat-48))
  show acc<=valD (10*acc+(c.toNat-48)) r
  omega
theorem x1ek:∀(l:List UInt8) (acc:Nat),l.all isDig=true->valD acc l<(acc+1)*10 ^ l.length
 |[],acc,_=>by simp[valD]
 |c::r,acc,h=>by
  rw[x1t7,x1rv]at h
  have hc:=x1ej h.1
  have ih:=x1ek r (10*acc+(c.toNat-48)) h.2
  show valD (10*acc+(c.toNat-48)) r<_
  rw[x1s5,Nat.pow_succ]
  have h2:(10*acc+(c.toNat-48)+1)*10 ^ r.length<=(acc+1)*10*10 ^ r.length:=x1t3 _ (by omega)
  rw[Nat.mul_assoc,Nat.mul_comm 10 (10 ^ r.length)]at h2
  omega
structure Digs (l:List UInt8) (u:Nat):Prop where
 all:l.all isDig=true
 val:valD 0 l=u
 ne:l≠[]
 hd:l.head?=some 48->l=[48]
theorem x1g8:∀(k u:Nat),1<=k->u<10 ^ k->Digs (digF k u) u
 |0,u,h,_=>absurd h (by decide)
 |k+1,u,_,h=>by
  unfold digF
  by_cases c:u<10
  .rw[x1rq c]
   refine⟨by rw[x1t7,x1j6 c];rfl,?_,by simp,?_⟩
   .rw[x1dg,x1df c];omega
   .intro e
    simp only[List.head?_cons,x1rt]at e
    rw[e]
  .rw[x1rr c]
   have hk:1<=k:=by
    rcases k with _|k
    .simp at h;omega
    .omega
   have ih:=x1g8 k (u / 10) hk (by rw[Nat.pow_succ]at h;omega)
   have hm:u % 10<10:=x1tq _ (by omega)
   refine⟨by rw[x1v4,ih.all,x1t7,x1j6 hm];rfl,?_,by simp,?_⟩
   .rw[x1g7,ih.val,x1dg,x1df hm];omega
   .intro e
    rw[List.head?_append]at e
    obtain⟨x,r,hx⟩:∃x r,digF k (u / 10)=x::r:=by
     cases h2:digF k (u / 10)with
     |nil=>exact absurd h2 ih.ne
     |cons x r=>exact⟨x,r,rfl⟩
    rw[hx]at e
    have e2:x=48:=by simpa using e
    have h3:=ih.hd (by rw[hx,e2];rfl)
    have h4:=ih.val
    rw[h3]at h4
    have:valD 0 [48]=0:=rfl
    omega
theorem digs_uniq:∀(l:List UInt8) (k:Nat),Digs l (valD 0 l)->l.length<=k->digF k (valD 0 l)=l:=by
 intro l
 induction hn:l.length generalizing l with
 |zero=>intro k h _;exact absurd (x1tv.1 hn) h.ne
 |succ n ih=>
  intro k h hk
  obtain⟨k,rfl⟩:∃j,k=j+1:=⟨k-1,by omega⟩
  obtain⟨r,c,rfl⟩:∃r c,l=r++[c]:=⟨l.dropLast,l.getLast h.ne,(List.dropLast_concat_getLast h.ne).symm⟩
  have ha:=h.all
  rw[x1v4,x1rv]at ha
  have hc:=x1ej (by simpa using ha.2)
  have hrl:r.length=n:=by simpa using hn
  by_cases hr:r=[]
  .subst hr
   rw[x1ua,x1dg]
   unfold digF
   rw[x1rq (by omega)]
   congr 1
   exact x1ck (by rw[x1df (by omega)];omega)
  .obtain⟨x,r',rfl⟩:∃x r',r=x::r':=by
    cases r with
    |nil=>exact absurd rfl hr
    |cons x r'=>exact⟨x,r',rfl⟩
   have hx0:x≠48:=λe=>by
    have:=h.hd (by rw[e];rfl)
    simp at this
   have hxd:=x1ej (c:=x) (by
    have:=ha.1
    rw[x1t7,x1rv]at this
    exact this.1)
   have hx1:49<=x.toNat:=by
    rcases x1si x.toNat 49 with h1|h1
    .exact absurd (x1ck (by show x.toNat=48;omega)) hx0
    .exact h1
   have hv:1<=valD 0 (x::r'):=by
    have:=valD_ge r' (10*0+(x.toNat-48))
    show 1<=valD (10*0+(x.toNat-48)) r'
    omega
   have hD:Digs (x::r') (valD 0 (x::r')):=⟨ha.1,rfl,by simp,λe=>by
    simp only[List.head?_cons,x1rt]at e
    exact absurd e hx0⟩
   have i1:=ih (x::r') hrl k hD (by omega)
   rw[x1g7,x1dg]
   generalize valD 0 (x::r')=v at hv i1
   unfold digF
   rw[x1rr (by omega),show(10*v+(c.toNat-48)) / 10=v from by omega,show(10*v+(c.toNat-48)) % 10=c.toNat-48 from by omega,i1]
   congr 2
   exact x1ck (by rw[x1df (by omega)];omega)
theorem nbrM_dec{l:List UInt8}{d:Nat}{n:Int}(hd:d<=18)(h:nbrM l d=some n):decM n=l/\-1000000000000000000<n/\n<1000000000000000000:=by
 unfold nbrM at h
 dsimp only at h
 generalize hr:(if l.head?=some 45 then l.tail else l)=r at h
 by_cases hc:r=[]\/d<r.length\/(r.head?=some 48/\1<l.length)\/r.all isDig=false
 .rw[x1rq hc]at h;cases h
 .rw[x1rr hc]at h
  simp only[not_or,Bool.not_eq_false]at hc
  obtain⟨h1,h2,h3,h4⟩:=hc
  have hlt:=x1ek r 0 h4
  have hp:10 ^ r.length<=10 ^ 18:=Nat.pow_le_pow_right (by omega) (by omega)
  have hz:∀hh:r.head?=some 48,r=[48]/\l.head?≠some 45:=by
   intro hh
   have h5:¬1<l.length:=λh6=>h3 ⟨hh,h6⟩
   by_cases c:l.head?=some 45
   .rw[x1rq c]at hr
    cases l with
    |nil=>cases c
    |cons x t=>
     simp only[List.tail_cons]at hr
     simp only[x1s5]at h5
     have:t=[]:=x1tv.1 (by omega)
     rw[<-hr,this]at h1
     exact absurd rfl h1
   .rw[x1rr c]at hr
    subst hr
    refine⟨?_,c⟩
    cases l with
    |nil=>cases hh
    |cons x t=>
     simp only[x1s5]at h5
     have:t=[]:=x1tv.1 (by omega)
     subst this
     simp only[List.head?_cons,x1rt]at hh
     rw[hh]
  have hD:Digs r (valD 0 r):=⟨h4,rfl,h1,λhh=>(hz hh).1⟩
  have hu:=digs_uniq r 20 hD (by omega)
  by_cases c:l.head?=some 45
  .rw[x1rq c]at h hr
   cases h
   have hpos:0<valD 0 r:=by
    rcases Nat.eq_zero_or_pos (valD 0 r)with h0|h0
    .exfalso
     rw[h0]at hu
     have:r=[48]:=by rw[<-hu];rfl
     exact(hz (by rw[this];rfl)).2 c
    .exact h0
   refine⟨?_,by omega,by omega⟩
   unfold decM
   rw[x1rq (by omega),show(-(valD 0 r:Int)).natAbs=valD 0 r from by omega,hu]
   cases l with
   |nil=>cases c
   |cons x t=>
    simp only[List.head?_cons,x1rt]at c
    rw[c,<-hr];rfl
  .rw[x1rr c]at h hr
   cases h
   refine⟨?_,by omega,by omega⟩
   unfold decM
   rw[x1rr (by omega),show((valD 0 r:Int)).toNat=valD 0 r from by omega,hu,hr]
theorem not45{c:UInt8}(h:isDig c=true):c≠45:=by
 rintro rfl
 exact absurd h (by decide)
def unsg(l:List UInt8):List UInt8:=if l.head?=some 45 then l.tail else l
theorem nbrM_decM{n:Int}(h0:-9223372036854775808<=n)(h1:n<=9223372036854775807)(d:Nat):nbrM (decM n) d=if(unsg (decM n)).length<=d then some n else none:=by
 unfold decM
 by_cases c:n<0
 .rw[x1rq c]
  have hD:=x1g8 20 n.natAbs (by omega) (by omega)
  have hu:unsg (45::digF 20 n.natAbs)=digF 20 n.natAbs:=by unfold unsg;rw[x1rq (show(45::digF 20 n.natAbs).head?=some 45 from rfl)];rfl
  rw[hu]
  unfold nbrM
  dsimp only
  rw[x1rq (show(45::digF 20 n.natAbs).head?=some 45 from rfl),List.tail_cons]
  have hz:¬((digF 20 n.natAbs).head?=some 48/\1<(45::digF 20 n.natAbs).length):=by
   rintro⟨h2,-⟩
   have h3:=hD.val
   rw[hD.hd h2]at h3
   have:valD 0 [48]=0:=rfl
   omega
  by_cases c2:(digF 20 n.natAbs).length<=d
  .rw[x1rq c2,x1rr (by
    rintro(h|h|h|h)
    .exact hD.ne h
    .omega
    .exact hz h
    .rw[hD.all]at h;cases h),x1rq (show(45::digF 20 n.natAbs).head?=some 45 from rfl),hD.val]
   congr 1
   omega
  .rw[x1rr c2,x1rq (.inr (.inl (by omega)))]
 .rw[x1rr c]
  have hD:=x1g8 20 n.toNat (by omega) (by omega)
  have hh:¬(digF 20 n.toNat).head?=some 45:=by
   cases h2:digF 20 n.toNat with
   |nil=>simp
   |cons x r=>
    have h3:=hD.all
    rw[h2,x1t7,x1rv]at h3
    simp only[List.head?_cons,x1rt]
    exact not45 h3.1
  have hu:unsg (digF 20 n.toNat)=digF 20 n.toNat:=by unfold unsg;rw[x1rr hh]
  rw[hu]
  unfold nbrM
  dsimp only
  rw[x1rr hh]
  have hz:¬((digF 20 n.toNat).head?=some 48/\1<(digF 20 n.toNat).length):=by
   rintro⟨h2,h3⟩
   rw[hD.hd h2]at h3
   simp at h3
  by_cases c2:(digF 20 n.toNat).length<=d
  .rw[x1rq c2,x1rr (by
    rintro(h|h|h|h)
    .exact hD.ne h
    .omega
    .exact hz h
    .rw[hD.all]at h;cases h),x1rr hh,hD.val]
   congr 1
   omega
  .rw[x1rr c2,x1rq (.inr (.inl (by omega)))]
def cutM(c:UInt8):List UInt8->List (List UInt8)
 |[]=>[[]]
 |x::r=>if x=c then[]::cutM c r else match cutM c r with
  |[]=>[[x]]
  |h::t=>(x::h)::t
theorem x1el(c:UInt8):∀l,cutM c l≠[]
 |[]=>by simp[cutM]
 |x::r=>by
  unfold cutM
  split
  .simp
  .split<;>simp
theorem x1cl{c:UInt8}:∀{l:List UInt8},c∉l->cutM c l=[l]
 |[],_=>rfl
 |x::r,h=>by
  unfold cutM
  rw[x1rr (λe=>h (by rw[e];exact x1sc)),x1cl λe=>h (x1s4 _ e)]
theorem x1bz{c:UInt8}:∀{l:List UInt8} (k:List UInt8),c∉l->cutM c (l++c::k)=l::cutM c k
 |[],k,_=>by
  show cutM c (c::k)=_
  rw[cutM,x1rq rfl]
 |x::r,k,h=>by
  rw[x1ti]
  rw[cutM]
  rw[x1rr (λe=>h (by rw[e];exact x1sc)),x1bz k λe=>h (x1s4 _ e)]
open Go.Proofs
def RetF(T:AV->Prop)(r:O2):Prop:=∃a m' a',r=some (a,m')/\frz m'.get deep a=some a'/\T a'
theorem RetF.st{T:AV->Prop}{a:AV}{m:Mem}(h:still a=true)(ht:T a):RetF T (some (a,m)):=⟨a,m,a,rfl,x1ar _ 4 h,ht⟩
theorem RetF.tup{T:AV->Prop}{l:List AV}{m:Mem}(h:l.all still=true)(ht:T (.tup l)):RetF T (some (.tup l,m)):=⟨_,m,_,rfl,frz_tup h,ht⟩
theorem RetF.mk{T:AV->Prop}{a a':AV}{m:Mem}(h:frz m.get deep a=some a')(ht:T a'):RetF T (some (a,m)):=⟨a,m,a',rfl,h,ht⟩
theorem callF{T:AV->Prop}{call:x16u}{f:FuncId}{l:List AV}(hl:l.all still=true)(h:RetF T (call [] f l mem0))(m:Mem):∃a,T a/\x16v call f l m=some (a,m):=by
 obtain⟨a,m',a',h1,h2,h3⟩:=h
 exact⟨a',h3,x1eh hl h1 h2⟩
theorem Gr.len{α:Type}{z:Nat}{enc:α->List AV}{l:List α}{a:AV}{u t:Nat}{m:Mem}{y e:TypeId}(ht:Tryz.prog.underlying y=some (.slice e))(h:Gr z enc u t m a l):sLen Tryz.prog y a=some (I l.length):=by
 rcases h with ⟨rfl,rfl⟩|⟨s,ver,rfl,hg⟩
 .exact x1cg ht
 .rfl
theorem x1cm{α:Type}{enc:α->List AV}{m:Mem}{l:List α}{k:Nat}(hk:k<l.length)(j:Nat){v:AV}(hv:((enc l[k]).drop j).head?=some v):sLd false 1 (.plit (((l.drop k).flatMap enc).drop j)) m=some v:=by
 rw[x1de hk,x1tf]
 have hj:j<(enc l[k]).length:=by
  rcases x1si j (enc l[k]).length with h|h
  .exact h
  .rw[x1u9 h]at hv;cases hv
 rw[List.drop_append_of_le_length (by omega)]
 cases hd:(enc l[k]).drop j with
 |nil=>rw[hd]at hv;cases hv
 |cons x r=>
  rw[hd]at hv
  simp at hv
  subst hv
  rfl
abbrev Tx(l:List UInt8):AV:=T ⟨l.toArray⟩
theorem t_add(x y:Operand){a b:ByteArray}(h:a.size+b.size<=9223372036854775807):sBin Tryz.prog .add x0 x y (T a) (T b)=some (T (a++b)):=by
 have e:x175 Tryz.prog (do eqGuard .add x0 x y (.string a) (.string b);binOp .add x0 (.string a) (.string b))=some (.string (a++b)):=by
  show x175 Tryz.prog (Op.stringOp .add a b)=_
  unfold Op.stringOp
  have hm:IntKind.i64.max=9223372036854775807:=by kernel_rfl
  simp only[]
  rw[x1rr (by rw[hm];omega)]
  rfl
 refine sBin_0 ?_
 unfold bin0
 simp only[x17m]
 rw[e];rfl
theorem t_ne(x y:Operand)(a b:ByteArray):sBin Tryz.prog .neq x0 x y (T a) (T b)=some (B (!(teq a b))):=by kernel_rfl
theorem x1em{x:Int}{n:Nat}{code:BoundsCode}(h0:0<=x)(h1:x<=n):Instr.sliceBound (.int .i64 x) n code=Pure.pure x.toNat:=by
 show(if 0<=x/\x<=n then _ else _)=_
 rw[x1rq ⟨h0,h1⟩]
theorem sl_run{s:ByteArray}{lo hi:Option Value}{l h:Nat}(hh:(match hi with|some v=>Instr.sliceBound v s.size .sliceAlen|none=>Pure.pure s.size)=(Pure.pure h:Sem Nat))(hl:(match lo with|some v=>Instr.sliceBound v h .sliceB|none=>Pure.pure 0)=(Pure.pure l:Sem Nat)) :
 x175 Tryz.prog (Instr.sliceAt x0 (.string s) lo hi none)=some (.string (s.extract l h)):=by
 have e:Instr.sliceBounds false s.size s.size lo hi none=(Pure.pure (l,h,s.size):Sem (Nat×Nat×Nat)):=by
  unfold Instr.sliceBounds
  cases hi with
  |none=>
   cases lo with
   |none=>
    simp only[Bind.bind,Sem.bind,Pure.pure,Sem.pure.injEq]at hh hl ⊢
    subst hh hl;rfl
   |some v=>
    simp only[Bind.bind,Sem.bind,Pure.pure,Sem.pure.injEq]at hh hl ⊢
    subst hh
    simp only[x1ux,x1sb,x1s1,hl]
    rfl
  |some u=>
   cases lo with
   |none=>
    simp only[Bind.bind,Sem.bind,Pure.pure]at hh hl ⊢
    simp only[x1sb,x1s1,hh]
    injection hl with hl
    subst hl;rfl
   |some v=>
    simp only[Bind.bind,Sem.bind,Pure.pure]at hh hl ⊢
    simp only[x1sb,x1s1,hh,x1ux]
    show(Instr.sliceBound v h BoundsCode.sliceB).bind (λl=>Sem.pure (l,h,s.size))=_
    rw[hl];rfl
 simp only[Instr.sliceAt,Instr.slice,underlying,program,Bind.bind,Sem.bind,x175,Pure.pure,u_str,e,x1ux,x1sb,x1s1]
theorem sl_T{s:ByteArray}{lo hi:Nat}(h1:lo<=hi)(h2:hi<=s.size):x17h Tryz.prog x0 (T s) (some (I lo)) (some (I hi))=some (T (s.extract lo hi)):=by
 have e:=sl_run (s:=s) (lo:=some (.int .i64 lo)) (hi:=some (.int .i64 hi)) (l:=lo) (h:=hi) (x1em (by omega) (by omega)) (x1em (by omega) (by omega))
 show(x175 Tryz.prog (Instr.sliceAt x0 (.string s) (some (.int .i64 lo)) (some (.int .i64 hi)) none)).map x17v=_
 rw[e];rfl
theorem sl_To{s:ByteArray}{lo:Nat}(h1:lo<=s.size):x17h Tryz.prog x0 (T s) (some (I lo)) none=some (T (s.extract lo s.size)):=by
 have e:=sl_run (s:=s) (lo:=some (.int .i64 lo)) (hi:=none) (l:=lo) (h:=s.size) rfl (x1em (by omega) (by omega))
 show(x175 Tryz.prog (Instr.sliceAt x0 (.string s) (some (.int .i64 lo)) none none)).map x17v=_
 rw[e];rfl
theorem sl_oT{s:ByteArray}{hi:Nat}(h1:hi<=s.size):x17h Tryz.prog x0 (T s) none (some (I hi))=some (T (s.extract 0 hi)):=by
 have e:=sl_run (s:=s) (lo:=none) (hi:=some (.int .i64 hi)) (l:=0) (h:=hi) (x1em (by omega) (by omega)) rfl
 show(x175 Tryz.prog (Instr.sliceAt x0 (.string s) none (some (.int .i64 hi)) none)).map x17v=_
 rw[e];rfl
theorem c_u8(n:Int):sCvt Tryz.prog x17o x1 (I n)=some (U8 (IntKind.u8.wrap n)):=by kernel_rfl
theorem c_int(n:Int):sCvt Tryz.prog x1 x17o (U8 n)=some (I (IntKind.i64.wrap n)):=by kernel_rfl
theorem u8_sub(x y:Operand)(a b:Int):sBin Tryz.prog .sub x1 x y (U8 a) (U8 b)=some (U8 (IntKind.u8.wrap (a-b))):=by kernel_rfl
theorem txt_1(c:Int)(m:Mem):sTxt Tryz.prog x9 x0 (.slit [U8 c] 1 true) m=some (T ⟨#[UInt8.ofNat c.toNat]⟩):=by kernel_rfl
theorem len_T(s:ByteArray):x179 (T s)=some (I s.size):=rfl
theorem x1a7(l:List UInt8):(⟨l.toArray⟩:ByteArray).size=l.length:=by
 show l.toArray.size=_
 simp
theorem Tx_of(s:ByteArray):T s=Tx s.data.toList:=by
 cases s;rfl
theorem Tx_ext(l:List UInt8)(a b:Nat):(⟨l.toArray⟩:ByteArray).extract a b=⟨((l.drop a).take (b-a)).toArray⟩:=by
 apply ByteArray.ext
 rw[ByteArray.data_extract]
 apply x1vf.1
 simp[List.extract_eq_take_drop,List.take_drop]
theorem Tx_app(l k:List UInt8):(⟨l.toArray⟩:ByteArray)++⟨k.toArray⟩=⟨(l++k).toArray⟩:=by
 apply ByteArray.ext
 rw[ByteArray.data_append]
 simp
theorem x18n(x y:Operand){l k:List UInt8}(h:l.length+k.length<=9223372036854775807):sBin Tryz.prog .add x0 x y (Tx l) (Tx k)=some (Tx (l++k)):=by
 rw[t_add x y (by rw[x1a7,x1a7];exact h),Tx_app]
theorem x17q(l:List UInt8):x179 (Tx l)=some (I l.length):=by rw[len_T,x1a7]
theorem x_sl{l:List UInt8}{lo hi:Nat}(h1:lo<=hi)(h2:hi<=l.length):x17h Tryz.prog x0 (Tx l) (some (I lo)) (some (I hi))=some (Tx ((l.drop lo).take (hi-lo))):=by
 rw[sl_T h1 (by rw[x1a7];exact h2),Tx_ext]
theorem x_slo{l:List UInt8}{lo:Nat}(h1:lo<=l.length):x17h Tryz.prog x0 (Tx l) (some (I lo)) none=some (Tx (l.drop lo)):=by
 rw[sl_To (by rw[x1a7];exact h1),Tx_ext,x1a7,x1s7 (by simp)]
theorem x_slh{l:List UInt8}{hi:Nat}(h1:hi<=l.length):x17h Tryz.prog x0 (Tx l) none (some (I hi))=some (Tx (l.take hi)):=by
 rw[sl_oT (by rw[x1a7];exact h1),Tx_ext,x1sg,Nat.sub_zero]
theorem x1c0{l:List UInt8}{k:Nat}(h:k<l.length):sIdx Tryz.prog x0 (Tx l) (I k)=some (U8 (l[k]).toNat):=by
 rw[idx_T (s:=⟨l.toArray⟩) (by simpa using h)]
theorem teq_Tx(l k:List UInt8):teq ⟨l.toArray⟩ ⟨k.toArray⟩=decide (l=k):=by
 unfold teq
 rw[ByteArray.toList_eq,ByteArray.toList_eq,Bool.eq_iff_iff]
 simp
theorem x_eq(x y:Operand)(l k:List UInt8):sBin Tryz.prog .eql x0 x y (Tx l) (Tx k)=some (B (decide (l=k))):=by rw[t_eq,teq_Tx]
theorem x_ne(x y:Operand)(l k:List UInt8):sBin Tryz.prog .neq x0 x y (Tx l) (Tx k)=some (B (!(decide (l=k)))):=by rw[t_ne,teq_Tx]
end Go.Ix
