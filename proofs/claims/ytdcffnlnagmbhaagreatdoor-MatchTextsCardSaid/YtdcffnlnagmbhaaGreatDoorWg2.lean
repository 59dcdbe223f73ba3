import Derived.Test.YtdcffnlnagmbhaaGreatDoorWg1
import Derived.Laws.Strings
import Derived.Test.YtdcffnlnagmbhaaGreatDoorWg0
set_option linter.unusedSimpArgs false
set_option linter.unusedVariables false
namespace Go.Ix
open Go.Proofs
abbrev Tx(l:List UInt8):AV:=T ⟨l.toArray⟩
theorem t_add(x y:Operand){a b:ByteArray}(h:a.size+b.size<=9223372036854775807):sBin Tryz.prog .add x7 x y (T a) (T b)=some (T (a++b)):=by
 have e:xpf Tryz.prog (do eqGuard .add x7 x y (.string a) (.string b);binOp .add x7 (.string a) (.string b))=some (.string (a++b)):=by
  show xpf Tryz.prog (Op.stringOp .add a b)=_
  unfold Op.stringOp
  have hm:IntKind.i64.max=9223372036854775807:=by kernel_rfl
  simp only[]
  rw[x16t (by rw[hm];omega)]
  rfl
 refine sBin_0 ?_
 unfold bin0
 simp only[xpn]
 rw[e];rfl
theorem t_ne(x y:Operand)(a b:ByteArray):sBin Tryz.prog .neq x7 x y (T a) (T b)=some (B (!(teq a b))):=by kernel_rfl
theorem xw8{x:Int}{n:Nat}{code:BoundsCode}(h0:0<=x)(h1:x<=n):Instr.sliceBound (.int .i64 x) n code=Pure.pure x.toNat:=by
 show(if 0<=x/\x<=n then _ else _)=_
 rw[x16u ⟨h0,h1⟩]
theorem sl_run{s:ByteArray}{lo hi:Option Value}{l h:Nat}(hh:(match hi with|some v=>Instr.sliceBound v s.size .sliceAlen|none=>Pure.pure s.size)=(Pure.pure h:Sem Nat))(hl:(match lo with|some v=>Instr.sliceBound v h .sliceB|none=>Pure.pure 0)=(Pure.pure l:Sem Nat)) :
 xpf Tryz.prog (Instr.sliceAt x7 (.string s) lo hi none)=some (.string (s.extract l h)):=by
 have e:Instr.sliceBounds false s.size s.size lo hi none=(Pure.pure (l,h,s.size):Sem (Nat×Nat×Nat)):=by
  unfold Instr.sliceBounds
  cases hi with
  |none=>
   cases lo with
   |none=>
    simp only[Bind.bind,Sem.bind,Pure.pure,Sem.pure.injEq]at hh hl ⊢
    subst hh hl;rfl
   |some v=>
    simp only[Bind.bind,Sem.bind,Pure.pure,Sem.pure.injEq]at hh hl ⊢
    subst hh
    simp only[x18p,x17h,x17b,hl]
    rfl
  |some u=>
   cases lo with
   |none=>
    simp only[Bind.bind,Sem.bind,Pure.pure]at hh hl ⊢
    simp only[x17h,x17b,hh]
    injection hl with hl
    subst hl;rfl
   |some v=>
    simp only[Bind.bind,Sem.bind,Pure.pure]at hh hl ⊢
    simp only[x17h,x17b,hh,x18p]
    show(Instr.sliceBound v h BoundsCode.sliceB).bind (λl=>Sem.pure (l,h,s.size))=_
    rw[hl];rfl
 simp only[Instr.sliceAt,Instr.slice,underlying,program,Bind.bind,Sem.bind,xpf,Pure.pure,u_str,e,x18p,x17h,x17b]
theorem sl_T{s:ByteArray}{lo hi:Nat}(h1:lo<=hi)(h2:hi<=s.size):xpu Tryz.prog x7 (T s) (some (I lo)) (some (I hi))=some (T (s.extract lo hi)):=by
 have e:=sl_run (s:=s) (lo:=some (.int .i64 lo)) (hi:=some (.int .i64 hi)) (l:=lo) (h:=hi) (xw8 (by omega) (by omega)) (xw8 (by omega) (by omega))
 show(xpf Tryz.prog (Instr.sliceAt x7 (.string s) (some (.int .i64 lo)) (some (.int .i64 hi)) none)).map xpz=_
 rw[e];rfl
theorem sl_To{s:ByteArray}{lo:Nat}(h1:lo<=s.size):xpu Tryz.prog x7 (T s) (some (I lo)) none=some (T (s.extract lo s.size)):=by
 have e:=sl_run (s:=s) (lo:=some (.int .i64 lo)) (hi:=none) (l:=lo) (h:=s.size) rfl (xw8 (by omega) (by omega))
 show(xpf Tryz.prog (Instr.sliceAt x7 (.string s) (some (.int .i64 lo)) none none)).map xpz=_
 rw[e];rfl
theorem sl_oT{s:ByteArray}{hi:Nat}(h1:hi<=s.size):xpu Tryz.prog x7 (T s) none (some (I hi))=some (T (s.extract 0 hi)):=by
 have e:=sl_run (s:=s) (lo:=none) (hi:=some (.int .i64 hi)) (l:=0) (h:=hi) (xw8 (by omega) (by omega)) rfl
 show(xpf Tryz.prog (Instr.sliceAt x7 (.string s) none (some (.int .i64 hi)) none)).map xpz=_
 rw[e];rfl
theorem c_u8(n:Int):sCvt Tryz.prog xpm x8 (I n)=some (U8 (IntKind.u8.wrap n)):=by kernel_rfl
theorem c_int(n:Int):sCvt Tryz.prog x8 xpm (U8 n)=some (I (IntKind.i64.wrap n)):=by kernel_rfl
theorem u8_sub(x y:Operand)(a b:Int):sBin Tryz.prog .sub x8 x y (U8 a) (U8 b)=some (U8 (IntKind.u8.wrap (a-b))):=by kernel_rfl
theorem txt_1(c:Int)(m:Mem):sTxt Tryz.prog xm x7 (.slit [U8 c] 1 true) m=some (T ⟨#[UInt8.ofNat c.toNat]⟩):=by kernel_rfl
theorem len_T(s:ByteArray):xpx (T s)=some (I s.size):=rfl
theorem xtb(l:List UInt8):(⟨l.toArray⟩:ByteArray).size=l.length:=by
 show l.toArray.size=_
 simp
theorem Tx_of(s:ByteArray):T s=Tx s.data.toList:=by
 cases s;rfl
theorem Tx_ext(l:List UInt8)(a b:Nat):(⟨l.toArray⟩:ByteArray).extract a b=⟨((l.drop a).take (b-a)).toArray⟩:=by
 apply ByteArray.ext
 rw[ByteArray.data_extract]
 apply x1aa.1
 simp[List.extract_eq_take_drop,List.take_drop]
theorem Tx_app(l k:List UInt8):(⟨l.toArray⟩:ByteArray)++⟨k.toArray⟩=⟨(l++k).toArray⟩:=by
 apply ByteArray.ext
 rw[ByteArray.data_append]
 simp
theorem x_add(x y:Operand){l k:List UInt8}(h:l.length+k.length<=9223372036854775807):sBin Tryz.prog .add x7 x y (Tx l) (Tx k)=some (Tx (l++k)):=by
 rw[t_add x y (by rw[xtb,xtb];exact h),Tx_app]
theorem xrd(l:List UInt8):xpx (Tx l)=some (I l.length):=by rw[len_T,xtb]
theorem x_sl{l:List UInt8}{lo hi:Nat}(h1:lo<=hi)(h2:hi<=l.length):xpu Tryz.prog x7 (Tx l) (some (I lo)) (some (I hi))=some (Tx ((l.drop lo).take (hi-lo))):=by
 rw[sl_T h1 (by rw[xtb];exact h2),Tx_ext]
theorem x_slo{l:List UInt8}{lo:Nat}(h1:lo<=l.length):xpu Tryz.prog x7 (Tx l) (some (I lo)) none=some (Tx (l.drop lo)):=by
 rw[sl_To (by rw[xtb];exact h1),Tx_ext,xtb,x173 (by simp)]
theorem x_slh{l:List UInt8}{hi:Nat}(h1:hi<=l.length):xpu Tryz.prog x7 (Tx l) none (some (I hi))=some (Tx (l.take hi)):=by
 rw[sl_oT (by rw[xtb];exact h1),Tx_ext,x17j,x1a3]
theorem x_idx{l:List UInt8}{k:Nat}(h:k<l.length):sIdx Tryz.prog x7 (Tx l) (I k)=some (U8 (l[k]).toNat):=by
 rw[idx_T (s:=⟨l.toArray⟩) (by simpa using h)]
theorem teq_Tx(l k:List UInt8):teq ⟨l.toArray⟩ ⟨k.toArray⟩=decide (l=k):=by
 unfold teq
 rw[ByteArray.toList_eq,ByteArray.toList_eq,Bool.eq_iff_iff]
 simp
theorem x_eq(x y:Operand)(l k:List UInt8):sBin Tryz.prog .eql x7 x y (Tx l) (Tx k)=some (B (decide (l=k))):=by rw[t_eq,teq_Tx]
theorem x_ne(x y:Operand)(l k:List UInt8):sBin Tryz.prog .neq x7 x y (Tx l) (Tx k)=some (B (!(decide (l=k)))):=by rw[t_ne,teq_Tx]
end Go.Ix
namespace Go.Ix
variable{R:Type}{m:Mem}
theorem xw9:∀l:List Int,l.flatMap intE=l.map I
 |[]=>rfl
 |x::l=>by rw[x18h,xw9 l];rfl
theorem xul(l:List Int):(l.flatMap intE).length=l.length:=by rw[xw9];simp
abbrev srI(id:Id)(n:Nat):AV:=.sref id 0 0 n 1 true
@[simp high] theorem ldRow_int{l:List Int}{k:Nat}{fz:Bool}(hk:k<l.length):xuh false 1 0 k (some (.row (l.flatMap intE) 0 fz))=some (I (at0 l k)):=by
  simp only[xuh,Nat.beq_refl,cond_true,rd,x17h,x17b]
  rw[xw9,<-List.map_drop,x10n hk,at0_lt hk]
  rfl
@[simp high] theorem stRow_int{l:List Int}{k:Nat}{v:Int}(hk:k<l.length):stRow 1 0 k (I v) (some (.row (l.flatMap intE) 0 false))=some (.row ((l.set k v).flatMap intE) 0 false):=by
  have h:(0:Nat)=0/\(I v).cells.length=1/\k+1<=(l.flatMap intE).length/\((I v).cells.all AV.one)=true:=⟨rfl,rfl,by rw[xul];omega,rfl⟩
  rw[xxv,x17y h,cond_true]
  simp only[xw9,xpo,cells_I]
  congr 2
  rw[List.map_set,List.set_eq_take_append_cons_drop,x16u (by simpa using hk)]
  simp
end Go.Ix
namespace Go.Ix
open Go.Proofs
variable{α:Type}{z:Nat}{enc:α->List AV}{l:List α}{a:AV}
def Gq{α:Type}(z:Nat)(enc:α->List AV)(u:Nat)(T:List Nat)(m:Mem)(a:AV)(l:List α):Prop:=
 (a=nilS/\l=[])\/∃s t ver,t∈T/\a=.sref (u,s,t) ver 0 l.length z true/\m.get (u,s,t)=some (.row (l.flatMap enc) ver false)
theorem Gq.nil{u:Nat}{T:List Nat}{m:Mem}:Gq z enc u T m nilS []:=Or.inl ⟨rfl,rfl⟩
theorem Gq.frame{u:Nat}{T:List Nat}{m m':Mem}(h:Gq z enc u T m a l)(hm:∀s t,t∈T->m'.get (u,s,t)=m.get (u,s,t)):Gq z enc u T m' a l:=by
 rcases h with h|⟨s,t,ver,h0,h1,h2⟩
 .exact Or.inl h
 .exact Or.inr ⟨s,t,ver,h0,h1,by rw[hm _ _ h0];exact h2⟩
theorem Gq.app(hz:∀x,(enc x).length=z)(h0:0<z){u t0 s0 bytes:Nat}{T:List Nat}{m:Mem}(ht:t0∈T)(hr:xpt (l.length+1) bytes)(h:Gq z enc u T m a l)(x:α) :
 ∃a' m',(∀{R:Type} (k:AV->Mem->Option R),sApp z bytes (u,s0,t0) (some (enc x,1)) a m k=k a' m')/\Gq z enc u T m' a' (l++[x])/\m'.next=m.next/\∀j:Id,j.2.2∉T->m'.get j=m.get j:=by
 rcases h with ⟨rfl,rfl⟩|⟨s,t,ver,h1,rfl,hg⟩
 .refine⟨.sref (u,s0,t0) 0 0 1 z true,m.new (u,s0,t0) (.row (enc x) 0 false),λk=>?_,Or.inr ⟨s0,t0,0,ht,rfl,by simp⟩,rfl,λj hj=>?_⟩
  .simp only[sApp]
   rw[x16t (by omega),x16u (by simpa using hr)]
  .rw[Mem.get_new,x16t (by rintro rfl;exact hj ht)]
 .have hl:=xry hz l
  refine⟨.sref (u,s,t) (ver+1) 0 (l.length+1) z true,m.set (u,s,t) (.row (l.flatMap enc++enc x) (ver+1) false),λk=>?_,Or.inr ⟨s,t,ver+1,h1,by simp,by simp⟩,rfl,λj hj=>?_⟩
  .simp only[sApp,hg]
   rw[x16u ⟨trivial,trivial,by omega,hr⟩,x16t (by omega),x16t (by rw[hl,x18b];omega),x17j,x173 (by omega)]
  .rw[Mem.get_set,x16t (by rintro rfl;exact hj h1)]
theorem Gq.frz(hz:∀x,(enc x).length=z)(hs:∀x,(enc x).all still1=true){u:Nat}{T:List Nat}{m:Mem}(h:Gq z enc u T m a l):∃a',Sl enc a' l/\Go.Ix.frz m.get deep a=some a':=by
 rcases h with ⟨rfl,rfl⟩|⟨s,t,ver,_,rfl,hg⟩
 .exact⟨nilS,Or.inl ⟨rfl,rfl⟩,rfl⟩
 .have hl:=xry hz l
  refine⟨.slit (l.flatMap enc) l.length false,Sl.lit l false,?_⟩
  have:=xv8 (objs:=m.get) (id:=(u,s,t)) (cs:=l.flatMap enc) (ver:=ver) (off:=0) (n:=l.length) (z:=z) (k:=4) (f:=false) (x:=true) hg (by omega) (by
   rw[x17j,x173 (by omega)];exact xt9 hs l)
  rw[x17j,x173 (by omega)]at this
  exact this
theorem Gq.len{u:Nat}{T:List Nat}{m:Mem}{t e:TypeId}(ht:Tryz.prog.underlying t=some (.slice e))(h:Gq z enc u T m a l):sLen Tryz.prog t a=some (I l.length):=by
 rcases h with ⟨rfl,rfl⟩|⟨s,t,ver,_,rfl,hg⟩
 .exact xw1 ht
 .rfl
end Go.Ix
set_option maxRecDepth 10000
namespace Go.Ix
open Go.Proofs
def strE(l:List UInt8):List AV:=[Tx l]
theorem xty(l:List UInt8):(strE l).length=1:=rfl
theorem xy2(l:List UInt8):(strE l).all still1=true:=rfl
theorem xy3{s:ByteArray}{id:Id}{m:Mem}{R:Type}{k:AV->Mem->Option R}:xpy x39 [(0,1,T s)] 1 1 id m k=k (.slit [T s] 1 true) m:=by
 have hz:x39=[T ⟨#[]⟩]:=by kernel_rfl
 rw[hz]
 exact xxx rfl rfl rfl
theorem u_strs:Tryz.prog.underlying xdd=some (.slice x7):=by kernel_rfl
theorem wrap_u8{n:Int}(h0:0<=n)(h1:n<256):IntKind.u8.wrap n=n:=by
 have:IntKind.u8.wrap n=n % 256:=by kernel_rfl
 rw[this];omega
theorem wrap_i64{n:Int}(h0:-9223372036854775808<=n)(h1:n<=9223372036854775807):IntKind.i64.wrap n=n:=by
 unfold IntKind.wrap
 have e1:((2:Int) ^ IntKind.i64.bits)=18446744073709551616:=by kernel_rfl
 have e2:((2:Int) ^ (IntKind.i64.bits-1))=9223372036854775808:=by kernel_rfl
 have e3:IntKind.i64.signed=true:=by kernel_rfl
 simp only[e1,e2,e3,x189,x18l]
 split<;>omega
theorem u8_lt256(c:UInt8):(c.toNat:Int)<256:=by have:=c.toNat_lt;omega
theorem take_snoc{l:List UInt8}{f i:Nat}(h0:f<=i)(h:i<l.length):(l.drop f).take (i+1-f)=(l.drop f).take (i-f)++[l[i]]:=by
 rw[show i+1-f=(i-f)+1 from by omega,List.take_add_one,x182,show f+(i-f)=i from by omega,x178 h]
 rfl
theorem x12t{l:List UInt8}{f i:Nat}(h0:f<=i)(h:i<l.length):l.drop f=(l.drop f).take (i-f)++l[i]::l.drop (i+1):=by
 have h1:=(x1ak (i-f) (l.drop f)).symm
 rw[List.drop_drop,show f+(i-f)=i from by omega,x1aj h]at h1
 exact h1
theorem l_Cut(d:Nat){c:UInt8}{l:List UInt8}(hl:l.length<=100000):∀(suf:List UInt8) (i j f:Nat) (acc:List (List UInt8)) (v:AV) (m:Mem) (fc:Nat),l.drop i=suf->suf.length<j->f<=i->i<=l.length->c∉(l.drop f).take (i-f)->acc++cutM c (l.drop f)=cutM c l->acc.length<=i->Gq 1 strE 0 [25,33] m v acc ->
 RetF (λx=>Sl strE x (cutM c l)) (x2g (xpc d) [] 0 j (Tx l) (U8 c.toNat) v (I f) (I i) m fc):=by
 intro suf
 induction suf with
 |nil=>
  intro i j f acc v m fc hd hj hfi hil hno hac hal hG
  obtain⟨j,rfl⟩:∃k,j=k+1:=⟨j-1,by simp at hj;omega⟩
  have hii:i=l.length:=by have:=x19j.mp hd;omega
  have hlt:¬((i:Int)<(l.length:Int)):=by omega
  rw[x173 (by simp;omega)]at hno
  rw[xw6 hno]at hac
  obtain⟨v',m',A1,G1,n1,f1⟩:=hG.app (t0:=33) (bytes:=16) (s0:=fc+4+5) xty (by omega) (by simp) (by unfold xpt;omega) (l.drop f)
  have el:∀objs,elems objs 1 (.slit [Tx (l.drop f)] 1 true)=some (strE (l.drop f),1):=λ_=>rfl
  simp only[x2g]
  unfold x5s x9a
  simp only[xrd,xpe,xrl,hlt,x176,xq8,x_slo (show f<=l.length by omega),xy3,el,A1]
  obtain⟨b,hb,hz⟩:=G1.frz xty xy2
  exact RetF.mk hz (hac▸hb)
 |cons x suf ih=>
  intro i j f acc v m fc hd hj hfi hil hno hac hal hG
  obtain⟨j,rfl⟩:∃k,j=k+1:=⟨j-1,by simp at hj;omega⟩
  obtain⟨hi,hx,hd1⟩:=xv7 hd
  have hlt:(i:Int)<(l.length:Int):=by omega
  have w7:w64 ((i:Int)+1)=((i+1:Nat):Int):=by rw[xr9 (by omega) (by omega)];omega
  simp only[x2g]
  unfold x5s x9b
  simp only[xrd,xpe,xrl,hlt,x179,xq6,x_idx hi,u8_eq]
  by_cases c1:l[i]=c
  .have c2:((l[i]).toNat:Int)=c.toNat:=by rw[c1]
   obtain⟨v',m',A1,G1,n1,f1⟩:=hG.app (t0:=25) (bytes:=16) (s0:=fc+4+11) xty (by omega) (by simp) (by unfold xpt;omega) ((l.drop f).take (i-f))
   have el:∀objs,elems objs 1 (.slit [Tx ((l.drop f).take (i-f))] 1 true)=some (strE ((l.drop f).take (i-f)),1):=λ_=>rfl
   have hcut:cutM c (l.drop f)=(l.drop f).take (i-f)::cutM c (l.drop (i+1)):=by
    conv=>lhs;rw[x12t hfi hi,c1]
    exact xw7 _ hno
   simp only[c2,x179,xq6,x_sl hfi (show i<=l.length by omega),xpe,xy3,el,A1,xsb,w7]
   unfold x3c
   simp only[xsb,xpe,w7]
   refine ih (i+1) j (i+1) (acc++[(l.drop f).take (i-f)]) v' m' _ hd1 (by simp at hj;omega) (x170 _) (by omega) (by rw[Nat.sub_self];simp) ?_ (by simp;omega) G1
   rw[<-hac,hcut];simp
  .have c2:¬((l[i]).toNat:Int)=c.toNat:=λh=>c1 (xui (by omega))
   simp only[c2,x176,xq8]
   unfold x3c
   simp only[xsb,xpe,w7]
   refine ih (i+1) j f acc v m _ hd1 (by simp at hj;omega) (by omega) (by omega) ?_ hac (by omega) hG
   rw[take_snoc hfi hi]
   intro h
   rcases x194.1 h with h|h
   .exact hno h
   .rw[x190]at h;exact c1 h.symm
theorem w_Cut(d:Nat)(c:UInt8){l:List UInt8}(hl:l.length<=100000):∃x,Sl strE x (cutM c l)/\∀m,xp9 (xpc (d+1)) x12 [Tx l,U8 c.toNat] m=some (x,m):=by
 obtain⟨x,m',x',h1,h2,h3⟩:RetF (λx=>Sl strE x (cutM c l)) (xpc (d+1) [] x12 [Tx l,U8 c.toNat] mem0):=by
  rw[xkv]
  unfold x72 x5t x9c
  exact l_Cut d hl l 0 NN 0 [] nilS _ _ rfl (by rw[xsd];omega) (x170 _) (x19s _) (by simp) rfl (x170 _) Gq.nil
 exact⟨x',h3,λm=>x10o rfl h1 h2⟩
def numV(o:Option Int):AV:=match o with
 |some n=>.tup [I n,B true]
 |none=>.tup [I 0,B false]
theorem l_Number(d:Nat){l:List UInt8}{at_:Nat}(hat:at_<=1){r:List UInt8}(hr:l.drop at_=r)(h18:r.length<=18):∀(suf:List UInt8) (i j:Nat) (m:Mem) (fc:Nat),r.drop i=suf->suf.length<j->(r.take i).all isDig=true ->
 ∃m',x2h (xpc d) [] 0 j (Tx l) (I at_) (I (valD 0 (r.take i))) (I (at_+i:Nat)) m fc=some (numV (if r.all isDig=true then some (if at_=1 then -(valD 0 r:Int)else valD 0 r)else none),m'):=by
 have hrl:r.length=l.length-at_:=by rw[<-hr,x1a2]
 intro suf
 induction suf with
 |nil=>
  intro i j m fc hd hj hall
  obtain⟨j,rfl⟩:∃k,j=k+1:=⟨j-1,by simp at hj;omega⟩
  have hii:r.length<=i:=x19j.mp hd
  have hlt:¬(((at_+i:Nat):Int)<(l.length:Int)):=by omega
  rw[x173 hii]at hall ⊢
  have hb:=xw5 r 0 hall
  have hp:10 ^ r.length<=10 ^ 18:=Nat.pow_le_pow_right (by omega) h18
  rw[x16u hall]
  simp only[x2h]
  unfold x5v x9d x5u
  simp only[xrd,xpe,xrl,hlt,x176,xq8,xsc]
  rcases(by omega:at_=0\/at_=1)with h|h
  .subst h
   exact⟨m,rfl⟩
  .subst h
   have w1:w64 (0-(valD 0 r:Int))=-(valD 0 r:Int):=by rw[xr9 (by omega) (by omega)];omega
   simp only[show decide (((1:Nat):Int)=1)=true from rfl,xq6,sNeg_I,xpe,w1]
   exact⟨m,rfl⟩
 |cons x suf ih=>
  intro i j m fc hd hj hall
  obtain⟨j,rfl⟩:∃k,j=k+1:=⟨j-1,by simp at hj;omega⟩
  obtain⟨hi,hx,hd1⟩:=xv7 hd
  have hi2:at_+i<l.length:=by omega
  have hlt:((at_+i:Nat):Int)<(l.length:Int):=by omega
  have hxl:l[at_+i]=x:=by
   rw[<-hx]
   have:r[i]?=l[at_+i]?:=by rw[<-hr,x182]
   rw[x178 hi,x178 hi2]at this
   exact(x17s this).symm
  have hidx:sIdx Tryz.prog x7 (Tx l) (I (at_+i:Nat))=some (U8 x.toNat):=by rw[x_idx hi2,hxl]
  have hts:r.take (i+1)=r.take i++[x]:=by rw[List.take_add_one,x178 hi,hx];rfl
  have w7:w64 (((at_+i:Nat):Int)+1)=((at_+(i+1):Nat):Int):=by rw[xr9 (by omega) (by omega)];omega
  simp only[x2h]
  unfold x5v
  simp only[xrd,xpe,xrl,hlt,x179,xq6,hidx,u8_lt,xt7,xt8,sW_f]
  have hxlt:=u8_lt256 x
  cases hdg:isDig x
  .have hno:r.all isDig=false:=by
    rw[x17f]
    intro h
    have:=x16z.mp h x (by rw[<-hx];exact x187 hi)
    rw[hdg]at this;cases this
   rw[x16t (by rw[hno];simp)]
   unfold isDig at hdg
   by_cases c1:(x.toNat:Int)<48
   .simp only[c1,x179,x17e,xqg,xpe,xqe,xqc,xq6]
    exact⟨m,rfl⟩
   .have c2:(57:Int)<x.toNat:=by
     rw[x17y (show 48<=x.toNat by omega),x189,decide_eq_false_iff_not]at hdg
     omega
    simp only[c1,x176,x175,xqc,xpe,hidx,u8_gt,c2,x179,xqe,xqg,xq6]
    exact⟨m,rfl⟩
  .have hg:=xuj hdg
   have c1:¬(x.toNat:Int)<48:=by omega
   have c2:¬(57:Int)<x.toNat:=by omega
   have hall2:(r.take (i+1)).all isDig=true:=by rw[hts,x1a0,hall];simp[hdg]
   have hb:=xw5 (r.take i) 0 hall
   have hp:10 ^ (r.take i).length<=10 ^ 17:=Nat.pow_le_pow_right (by omega) (by rw[x18y];omega)
   have e1:IntKind.u8.wrap ((x.toNat:Int)-48)=(x.toNat:Int)-48:=wrap_u8 (by omega) (by omega)
   have e2:IntKind.i64.wrap ((x.toNat:Int)-48)=(x.toNat:Int)-48:=wrap_i64 (by omega) (by omega)
   have w1:w64 (10*(valD 0 (r.take i):Int))=10*(valD 0 (r.take i):Int):=xr9 (by omega) (by omega)
   have w2:w64 (10*(valD 0 (r.take i):Int)+((x.toNat:Int)-48))=(valD 0 (r.take (i+1)):Int):=by
    rw[hts,xxy,xva,xr9 (by omega) (by omega)];omega
   simp only[c1,c2,x176,x175,xqc,xpe,hidx,u8_gt,xqe,xqg,xq8,sMul_I,u8_sub,e1,c_int,e2,w1,xsb,w2,w7]
   exact ih (i+1) j m _ hd1 (by simp at hj;omega) hall2
theorem w_Number(d:Nat){l:List UInt8}(hl:l.length<=100000){k:Nat}(hk:k<=18)(m:Mem):xp9 (xpc (d+1)) x13 [Tx l,I k] m=some (numV (nbrM l k),m):=by
 suffices h:∃m',xpc (d+1) [] x13 [Tx l,I k] mem0=some (numV (nbrM l k),m') by
  obtain⟨m',h⟩:=h
  cases hn:nbrM l k with
  |none=>rw[hn]at h;exact call0_tup rfl h rfl
  |some n=>rw[hn]at h;exact call0_tup rfl h rfl
 rw[xkw]
 unfold x73 x5x x9e
 simp only[mem0,xrd,xpe,xue,xt7,xt8,sW_t]
 have four:∀(at_:Nat) (m:Mem) (fc:Nat),at_<=1->(at_=1↔l.head?=some 45)->∃m',x3d (xpc d) [] 0 (Tx l) (I k) (I at_) m fc=some (numV (nbrM l k),m'):=by
  intro at_ m fc hat hs
  have hr:(if l.head?=some 45 then l.tail else l)=l.drop at_:=by
   rcases(by omega:at_=0\/at_=1)with h|h
   .subst h
    rw[x16t (λh=>absurd (hs.2 h) (by decide))];rfl
   .subst h
    rw[x16u (hs.1 rfl),List.drop_one]
  have hsg:∀v:Nat,(if l.head?=some 45 then -(v:Int)else(v:Int))=if at_=1 then -(v:Int)else(v:Int):=λv=>by
   by_cases h:at_=1
   .rw[x16u h,x16u (hs.1 h)]
   .rw[x16t h,x16t (λh2=>h (hs.2 h2))]
  have hle:at_<=l.length:=by
   rcases(by omega:at_=0\/at_=1)with h|h
   .omega
   .have:=hs.1 h
    cases l with
    |nil=>simp at this
    |cons x t=>simp;omega
  have w1:w64 ((l.length:Int)-at_)=((l.length-at_:Nat):Int):=by rw[xr9 (by omega) (by omega)];omega
  unfold nbrM
  dsimp only
  rw[hr,hsg]
  unfold x3d
  simp only[xrd,xpe,xsc,xt7,xt8,sW_f]
  have hdl:(l.drop at_).length=l.length-at_:=x1a2
  by_cases c1:(l.length:Int)=at_
  .have:l.drop at_=[]:=x18i.1 (by omega)
   rw[x16u (.inl this)]
   have c1':decide ((l.length:Int)=(at_:Int))=true:=x17y c1
   rw[c1']
   simp only[x17e,xqg,xpe,xqe,xqc,xq6,sW_U,sW_t,sW_f]
   exact⟨m,rfl⟩
  have hne:l.drop at_≠[]:=λh=>by rw[h]at hdl;simp at hdl;omega
  have c1':decide ((l.length:Int)=(at_:Int))=false:=x19z c1
  rw[c1']
  simp only[x175,xqc,xpe,xrd,sSub_I,w1,xue,xqe,xqg,sW_f]
  by_cases c2:(k:Int)<((l.length-at_:Nat):Int)
  .rw[x16u (.inr (.inl (by omega)))]
   simp only[c2,x179,x17e,xqg,xpe,xqe,xqc,xq6,sW_U]
   exact⟨m,rfl⟩
  have hi:at_<l.length:=by omega
  have hh:(l.drop at_).head?=some l[at_]:=by rw[x1aj hi];rfl
  simp only[c2,x176,x175,xqc,xpe,x_idx hi,u8_eq,xqe,xqg,sW_f,sW_t]
  have fin:¬((l.drop at_).head?=some 48/\1<l.length)->∀fc,∃m',x5w (xpc d) [] 0 (Tx l) (I at_) (I 0) m fc=some (numV (if l.drop at_=[]\/k<(l.drop at_).length\/((l.drop at_).head?=some 48/\1<l.length)\/(l.drop at_).all isDig=false then none else some (if at_=1 then -(valD 0 (l.drop at_):Int)else valD 0 (l.drop at_))),m'):=by
   intro h3 fc
   unfold x5w
   obtain⟨m',h⟩:=l_Number d hat (r:=l.drop at_) rfl (by omega) (l.drop at_) 0 NN m (fc+2) rfl (by rw[xsd];omega) rfl
   refine⟨m',h.trans ?_⟩
   cases hall:(l.drop at_).all isDig
   .rw[x16t (by simp),x16u (.inr (.inr (.inr rfl)))]
   .have hn:¬(l.drop at_=[]\/k<(l.drop at_).length\/((l.drop at_).head?=some 48/\1<l.length)\/true=false):=by
     rintro(h|h|h|h)
     .exact hne h
     .omega
     .exact h3 h
     .cases h
    rw[x16u rfl,x16t hn]
  by_cases c3:((l[at_]).toNat:Int)=48
  .have c4:l[at_]=48:=xui (by show(l[at_]).toNat=48;omega)
   simp only[c3,x179,xqc,xpe,xrd,xue,xqe,xqg]
   by_cases c5:(1:Int)<l.length
   .rw[x16u (.inr (.inr (.inl ⟨by rw[hh,c4],by omega⟩)))]
    simp only[c5,x179,xq6,xqe,xqc,xpe,sW_t,x175]
    exact⟨m,rfl⟩
   .simp only[c5,x176,xq8,xqe,xqg,xpe]
    exact fin (λh=>c5 (by omega)) _
  .simp only[c3,x176,xqg,xpe,xqe,xq8,sW_U]
   refine fin (λh=>c3 ?_) _
   have h1:=h.1
   rw[hh]at h1
   rw[x17s h1];rfl
 by_cases c:0<l.length
 .have c':(0:Int)<l.length:=by omega
  have hh:l.head?=some l[0]:=by
   cases l with
   |nil=>simp at c
   |cons x t=>rfl
  have hix:sIdx Tryz.prog x7 (Tx l) (I 0)=some (U8 (l[0]).toNat):=x_idx (k:=0) c
  simp only[c',x179,xqc,xpe,hix,u8_eq,xqe]
  by_cases c2:((l[0]).toNat:Int)=45
  .simp only[c2,x179,xq6]
   refine four 1 _ _ (x170 _) ⟨λ_=>?_,λ_=>rfl⟩
   rw[hh]
   congr 1
   exact xui (by show(l[0]).toNat=45;omega)
  .simp only[c2,x176,xq8]
   refine four 0 _ _ (by omega) ⟨λh=>(by cases h),λh=>?_⟩
   rw[hh]at h
   exact absurd (by rw[x17s h];rfl) c2
 .have c':¬(0:Int)<l.length:=by omega
  have hl0:l=[]:=x18i.1 (by omega)
  simp only[c',x176,xqg,xpe,xqe,xq8]
  refine four 0 _ _ (by omega) ⟨λh=>(by cases h),λh=>?_⟩
  rw[hl0]at h;cases h
end Go.Ix
