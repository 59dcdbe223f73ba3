import Derived.Test.YtacloojepepcfaaGreatDoorWg1
import Derived.Laws.Strings
import Derived.Test.YtacloojepepcfaaGreatDoorWg0
set_option linter.unusedSimpArgs false
namespace Go.Ix
open Go.Proofs
def RetF(T:AV->Prop)(r:O2):Prop:=∃a m' a',r=some (a,m')/\frz m'.get deep a=some a'/\T a'
theorem RetF.st{T:AV->Prop}{a:AV}{m:Mem}(h:still a=true)(ht:T a):RetF T (some (a,m)):=⟨a,m,a,rfl,xu6 _ 4 h,ht⟩
theorem RetF.tup{T:AV->Prop}{l:List AV}{m:Mem}(h:l.all still=true)(ht:T (.tup l)):RetF T (some (.tup l,m)):=⟨_,m,_,rfl,frz_tup h,ht⟩
theorem RetF.mk{T:AV->Prop}{a a':AV}{m:Mem}(h:frz m.get deep a=some a')(ht:T a'):RetF T (some (a,m)):=⟨a,m,a',rfl,h,ht⟩
theorem callF{T:AV->Prop}{call:xou}{f:FuncId}{l:List AV}(hl:l.all still=true)(h:RetF T (call [] f l mem0))(m:Mem):∃a,T a/\xox call f l m=some (a,m):=by
 obtain⟨a,m',a',h1,h2,h3⟩:=h
 exact⟨a',h3,xwu hl h1 h2⟩
theorem Gr.len{α:Type}{z:Nat}{enc:α->List AV}{l:List α}{a:AV}{u t:Nat}{m:Mem}{y e:TypeId}(ht:Tryz.prog.underlying y=some (.slice e))(h:Gr z enc u t m a l):sLen Tryz.prog y a=some (I l.length):=by
 rcases h with ⟨rfl,rfl⟩|⟨s,ver,rfl,hg⟩
 .exact xwr ht
 .rfl
end Go.Ix
set_option linter.unusedVariables false
namespace Go.Ix
open Go.Proofs
abbrev Tx(l:List UInt8):AV:=T ⟨l.toArray⟩
theorem t_add(x y:Operand){a b:ByteArray}(h:a.size+b.size<=9223372036854775807):sBin Tryz.prog .add x5 x y (T a) (T b)=some (T (a++b)):=by
 have e:xp2 Tryz.prog (do eqGuard .add x5 x y (.string a) (.string b);binOp .add x5 (.string a) (.string b))=some (.string (a++b)):=by
  show xp2 Tryz.prog (Op.stringOp .add a b)=_
  unfold Op.stringOp
  have hm:IntKind.i64.max=9223372036854775807:=by kernel_rfl
  simp only[]
  rw[x17t (by rw[hm];omega)]
  rfl
 refine sBin_0 ?_
 unfold bin0
 simp only[xpb]
 rw[e];rfl
theorem t_ne(x y:Operand)(a b:ByteArray):sBin Tryz.prog .neq x5 x y (T a) (T b)=some (B (!(teq a b))):=by kernel_rfl
theorem xwz{x:Int}{n:Nat}{code:BoundsCode}(h0:0<=x)(h1:x<=n):Instr.sliceBound (.int .i64 x) n code=Pure.pure x.toNat:=by
 show(if 0<=x/\x<=n then _ else _)=_
 rw[x17u ⟨h0,h1⟩]
theorem sl_run{s:ByteArray}{lo hi:Option Value}{l h:Nat}(hh:(match hi with|some v=>Instr.sliceBound v s.size .sliceAlen|none=>Pure.pure s.size)=(Pure.pure h:Sem Nat))(hl:(match lo with|some v=>Instr.sliceBound v h .sliceB|none=>Pure.pure 0)=(Pure.pure l:Sem Nat)) :
 xp2 Tryz.prog (Instr.sliceAt x5 (.string s) lo hi none)=some (.string (s.extract l h)):=by
 have e:Instr.sliceBounds false s.size s.size lo hi none=(Pure.pure (l,h,s.size):Sem (Nat×Nat×Nat)):=by
  unfold Instr.sliceBounds
  cases hi with
  |none=>
   cases lo with
   |none=>
    simp only[Bind.bind,Sem.bind,Pure.pure,Sem.pure.injEq]at hh hl ⊢
    subst hh hl;rfl
   |some v=>
    simp only[Bind.bind,Sem.bind,Pure.pure,Sem.pure.injEq]at hh hl ⊢
    subst hh
    simp only[x1b3,x18i,x18e,hl]
    rfl
  |some u=>
   cases lo with
   |none=>
    simp only[Bind.bind,Sem.bind,Pure.pure]at hh hl ⊢
    simp only[x18i,x18e,hh]
    injection hl with hl
    subst hl;rfl
   |some v=>
    simp only[Bind.bind,Sem.bind,Pure.pure]at hh hl ⊢
    simp only[x18i,x18e,hh,x1b3]
    show(Instr.sliceBound v h BoundsCode.sliceB).bind (λl=>Sem.pure (l,h,s.size))=_
    rw[hl];rfl
 simp only[Instr.sliceAt,Instr.slice,underlying,program,Bind.bind,Sem.bind,xp2,Pure.pure,u_str,e,x1b3,x18i,x18e]
theorem sl_T{s:ByteArray}{lo hi:Nat}(h1:lo<=hi)(h2:hi<=s.size):xpd Tryz.prog x5 (T s) (some (I lo)) (some (I hi))=some (T (s.extract lo hi)):=by
 have e:=sl_run (s:=s) (lo:=some (.int .i64 lo)) (hi:=some (.int .i64 hi)) (l:=lo) (h:=hi) (xwz (by omega) (by omega)) (xwz (by omega) (by omega))
 show(xp2 Tryz.prog (Instr.sliceAt x5 (.string s) (some (.int .i64 lo)) (some (.int .i64 hi)) none)).map xpm=_
 rw[e];rfl
theorem sl_To{s:ByteArray}{lo:Nat}(h1:lo<=s.size):xpd Tryz.prog x5 (T s) (some (I lo)) none=some (T (s.extract lo s.size)):=by
 have e:=sl_run (s:=s) (lo:=some (.int .i64 lo)) (hi:=none) (l:=lo) (h:=s.size) rfl (xwz (by omega) (by omega))
 show(xp2 Tryz.prog (Instr.sliceAt x5 (.string s) (some (.int .i64 lo)) none none)).map xpm=_
 rw[e];rfl
theorem sl_oT{s:ByteArray}{hi:Nat}(h1:hi<=s.size):xpd Tryz.prog x5 (T s) none (some (I hi))=some (T (s.extract 0 hi)):=by
 have e:=sl_run (s:=s) (lo:=none) (hi:=some (.int .i64 hi)) (l:=0) (h:=hi) (xwz (by omega) (by omega)) rfl
 show(xp2 Tryz.prog (Instr.sliceAt x5 (.string s) none (some (.int .i64 hi)) none)).map xpm=_
 rw[e];rfl
theorem c_u8(n:Int):sCvt Tryz.prog xpa x6 (I n)=some (U8 (IntKind.u8.wrap n)):=by kernel_rfl
theorem c_int(n:Int):sCvt Tryz.prog x6 xpa (U8 n)=some (I (IntKind.i64.wrap n)):=by kernel_rfl
theorem u8_sub(x y:Operand)(a b:Int):sBin Tryz.prog .sub x6 x y (U8 a) (U8 b)=some (U8 (IntKind.u8.wrap (a-b))):=by kernel_rfl
theorem txt_1(c:Int)(m:Mem):sTxt Tryz.prog xg x5 (.slit [U8 c] 1 true) m=some (T ⟨#[UInt8.ofNat c.toNat]⟩):=by kernel_rfl
theorem len_T(s:ByteArray):xpk (T s)=some (I s.size):=rfl
theorem xtm(l:List UInt8):(⟨l.toArray⟩:ByteArray).size=l.length:=by
 show l.toArray.size=_
 simp
theorem Tx_of(s:ByteArray):T s=Tx s.data.toList:=by
 cases s;rfl
theorem Tx_ext(l:List UInt8)(a b:Nat):(⟨l.toArray⟩:ByteArray).extract a b=⟨((l.drop a).take (b-a)).toArray⟩:=by
 apply ByteArray.ext
 rw[ByteArray.data_extract]
 apply x1bl.1
 simp[List.extract_eq_take_drop,List.take_drop]
theorem Tx_app(l k:List UInt8):(⟨l.toArray⟩:ByteArray)++⟨k.toArray⟩=⟨(l++k).toArray⟩:=by
 apply ByteArray.ext
 rw[ByteArray.data_append]
 simp
theorem xsb(x y:Operand){l k:List UInt8}(h:l.length+k.length<=9223372036854775807):sBin Tryz.prog .add x5 x y (Tx l) (Tx k)=some (Tx (l++k)):=by
 rw[t_add x y (by rw[xtm,xtm];exact h),Tx_app]
theorem xr4(l:List UInt8):xpk (Tx l)=some (I l.length):=by rw[len_T,xtm]
theorem x_sl{l:List UInt8}{lo hi:Nat}(h1:lo<=hi)(h2:hi<=l.length):xpd Tryz.prog x5 (Tx l) (some (I lo)) (some (I hi))=some (Tx ((l.drop lo).take (hi-lo))):=by
 rw[sl_T h1 (by rw[xtm];exact h2),Tx_ext]
theorem x_slo{l:List UInt8}{lo:Nat}(h1:lo<=l.length):xpd Tryz.prog x5 (Tx l) (some (I lo)) none=some (Tx (l.drop lo)):=by
 rw[sl_To (by rw[xtm];exact h1),Tx_ext,xtm,x182 (by simp)]
theorem x_slh{l:List UInt8}{hi:Nat}(h1:hi<=l.length):xpd Tryz.prog x5 (Tx l) none (some (I hi))=some (Tx (l.take hi)):=by
 rw[sl_oT (by rw[xtm];exact h1),Tx_ext,x180,Nat.sub_zero]
theorem x_idx{l:List UInt8}{k:Nat}(h:k<l.length):sIdx Tryz.prog x5 (Tx l) (I k)=some (U8 (l[k]).toNat):=by
 rw[idx_T (s:=⟨l.toArray⟩) (by simpa using h)]
theorem teq_Tx(l k:List UInt8):teq ⟨l.toArray⟩ ⟨k.toArray⟩=decide (l=k):=by
 unfold teq
 rw[ByteArray.toList_eq,ByteArray.toList_eq,Bool.eq_iff_iff]
 simp
theorem x_eq(x y:Operand)(l k:List UInt8):sBin Tryz.prog .eql x5 x y (Tx l) (Tx k)=some (B (decide (l=k))):=by rw[t_eq,teq_Tx]
theorem x_ne(x y:Operand)(l k:List UInt8):sBin Tryz.prog .neq x5 x y (Tx l) (Tx k)=some (B (!(decide (l=k)))):=by rw[t_ne,teq_Tx]
end Go.Ix
namespace Go.Ix
variable{R:Type}{m:Mem}
theorem xud:∀l:List Int,l.flatMap intE=l.map I
 |[]=>rfl
 |x::l=>by rw[x19l,xud l];rfl
theorem xrk(l:List Int):(l.flatMap intE).length=l.length:=by rw[xud];simp
def OwnI(m:Mem)(id:Id)(l:List Int):Prop:=m.get id=some (.row (l.flatMap intE) 0 false)
abbrev srI(id:Id)(n:Nat):AV:=.sref id 0 0 n 1 true
theorem xso{id:Id}{n:Nat}{k:Int}(h0:0<=k)(hk:k<n):sIx 1 (srI id n) (I k)=some (.ptr id 0 k.toNat):=by
 simp[sIx,asI,h0,hk]
@[simp high] theorem ldRow_int{l:List Int}{k:Nat}{fz:Bool}(hk:k<l.length):xu8 false 1 0 k (some (.row (l.flatMap intE) 0 fz))=some (I (at0 l k)):=by
  simp only[xu8,x18o,cond_true,rd,x18i,x18e]
  rw[xud,<-List.map_drop,xu7 hk,xs9 hk]
  rfl
@[simp high] theorem xyt{l:List Int}{k:Nat}{v:Int}(hk:k<l.length):xrq 1 0 k (I v) (some (.row (l.flatMap intE) 0 false))=some (.row ((l.set k v).flatMap intE) 0 false):=by
  have h:(0:Nat)=0/\(I v).cells.length=1/\k+1<=(l.flatMap intE).length/\((I v).cells.all AV.one)=true:=⟨rfl,rfl,by rw[xrk];omega,rfl⟩
  rw[xvo,x190 h,cond_true]
  simp only[xud,xp7,cells_I]
  congr 2
  rw[List.map_set,x1by,x17u (by simpa using hk)]
  simp
theorem xtn{l:List Int}{k j:Nat}{v:Int}(hk:k<l.length):at0 (l.set k v) j=if j=k then v else at0 l j:=by
 unfold at0
 rw[x18r,x18r,List.getElem?_set]
 by_cases h:k=j
 .subst h;simp[hk]
 .rw[x17t h,x17t (λe=>h e.symm)]
theorem zeros_int(n:Nat):xpw [I 0] (n*1)=(List.replicate n (0:Int)).flatMap intE:=by
 rw[xud,x195]
 simp only[xpw,List.map_replicate]
 apply x1bt
 .simp
 .intro i h1 h2
  simp[Nat.mod_one]
theorem xyu{n:Int}{id:Id}{k:AV->Mem->Option R}(h0:0<=n)(h1:n<=1000000):xqr [I 0] 1 8 (I n) (I n) id m k=k (srI id n.toNat) (m.new id (.row ((List.replicate n.toNat (0:Int)).flatMap intE) 0 false)):=by
 simp only[xqr,asI]
 rw[x17u ⟨h0,x1ab _,by omega,by omega⟩,zeros_int]
theorem frz_own{l:List Int}{id:Id}(h:OwnI m id l):frz m.get deep (srI id l.length)=some (.slit (l.flatMap intE) l.length false):=by
 have hl:=xrk l
 have:=xsn (objs:=m.get) (id:=id) (cs:=l.flatMap intE) (ver:=0) (off:=0) (n:=l.length) (z:=1) (k:=4) (f:=false) (x:=true) h (by omega) (by
  rw[x180,x182 (by omega)];exact xr9 xua l)
 rw[x180,x182 (by omega)]at this
 exact this
end Go.Ix
namespace Go.Ix
open Go.Proofs
variable{α:Type}{z:Nat}{enc:α->List AV}{l:List α}{a:AV}
def Gq{α:Type}(z:Nat)(enc:α->List AV)(u:Nat)(T:List Nat)(m:Mem)(a:AV)(l:List α):Prop:=
 (a=nilS/\l=[])\/∃s t ver,t∈T/\a=.sref (u,s,t) ver 0 l.length z true/\m.get (u,s,t)=some (.row (l.flatMap enc) ver false)
theorem Gq.nil{u:Nat}{T:List Nat}{m:Mem}:Gq z enc u T m nilS []:=Or.inl ⟨rfl,rfl⟩
theorem Gq.frame{u:Nat}{T:List Nat}{m m':Mem}(h:Gq z enc u T m a l)(hm:∀s t,t∈T->m'.get (u,s,t)=m.get (u,s,t)):Gq z enc u T m' a l:=by
 rcases h with h|⟨s,t,ver,h0,h1,h2⟩
 .exact Or.inl h
 .exact Or.inr ⟨s,t,ver,h0,h1,by rw[hm _ _ h0];exact h2⟩
theorem Gq.app(hz:∀x,(enc x).length=z)(h0:0<z){u t0 s0 bytes:Nat}{T:List Nat}{m:Mem}(ht:t0∈T)(hr:xpc (l.length+1) bytes)(h:Gq z enc u T m a l)(x:α) :
 ∃a' m',(∀{R:Type} (k:AV->Mem->Option R),sApp z bytes (u,s0,t0) (some (enc x,1)) a m k=k a' m')/\Gq z enc u T m' a' (l++[x])/\m'.next=m.next/\∀j:Id,j.2.2∉T->m'.get j=m.get j:=by
 rcases h with ⟨rfl,rfl⟩|⟨s,t,ver,h1,rfl,hg⟩
 .refine⟨.sref (u,s0,t0) 0 0 1 z true,m.new (u,s0,t0) (.row (enc x) 0 false),λk=>?_,Or.inr ⟨s0,t0,0,ht,rfl,by simp⟩,rfl,λj hj=>?_⟩
  .simp only[sApp]
   rw[x17t (by omega),x17u (by simpa using hr)]
  .rw[Mem.get_new,x17t (by rintro rfl;exact hj ht)]
 .have hl:=xrp hz l
  refine⟨.sref (u,s,t) (ver+1) 0 (l.length+1) z true,m.set (u,s,t) (.row (l.flatMap enc++enc x) (ver+1) false),λk=>?_,Or.inr ⟨s,t,ver+1,h1,by simp,by simp⟩,rfl,λj hj=>?_⟩
  .simp only[sApp,hg]
   rw[x17u ⟨trivial,trivial,by omega,hr⟩,x17t (by omega),x17t (by rw[hl,x19m];omega),x180,x182 (by omega)]
  .rw[Mem.get_set,x17t (by rintro rfl;exact hj h1)]
theorem Gq.frz(hz:∀x,(enc x).length=z)(hs:∀x,(enc x).all still1=true){u:Nat}{T:List Nat}{m:Mem}(h:Gq z enc u T m a l):∃a',Sl enc a' l/\Go.Ix.frz m.get deep a=some a':=by
 rcases h with ⟨rfl,rfl⟩|⟨s,t,ver,_,rfl,hg⟩
 .exact⟨nilS,Or.inl ⟨rfl,rfl⟩,rfl⟩
 .have hl:=xrp hz l
  refine⟨.slit (l.flatMap enc) l.length false,Sl.lit l false,?_⟩
  have:=xsn (objs:=m.get) (id:=(u,s,t)) (cs:=l.flatMap enc) (ver:=ver) (off:=0) (n:=l.length) (z:=z) (k:=4) (f:=false) (x:=true) hg (by omega) (by
   rw[x180,x182 (by omega)];exact xr9 hs l)
  rw[x180,x182 (by omega)]at this
  exact this
theorem Gq.len{u:Nat}{T:List Nat}{m:Mem}{t e:TypeId}(ht:Tryz.prog.underlying t=some (.slice e))(h:Gq z enc u T m a l):sLen Tryz.prog t a=some (I l.length):=by
 rcases h with ⟨rfl,rfl⟩|⟨s,t,ver,_,rfl,hg⟩
 .exact xwr ht
 .rfl
end Go.Ix
set_option maxRecDepth 10000
namespace Go.Ix
open Go.Proofs
def strE(l:List UInt8):List AV:=[Tx l]
theorem xue(l:List UInt8):(strE l).length=1:=rfl
theorem xyv(l:List UInt8):(strE l).all still1=true:=rfl
theorem xx0{s:ByteArray}{id:Id}{m:Mem}{R:Type}{k:AV->Mem->Option R}:xpj x2d [(0,1,T s)] 1 1 id m k=k (.slit [T s] 1 true) m:=by
 have hz:x2d=[T ⟨#[]⟩]:=by kernel_rfl
 rw[hz]
 exact xym rfl rfl rfl
theorem u_strs:Tryz.prog.underlying xdu=some (.slice x5):=by kernel_rfl
theorem wrap_u8{n:Int}(h0:0<=n)(h1:n<256):IntKind.u8.wrap n=n:=by
 have:IntKind.u8.wrap n=n % 256:=by kernel_rfl
 rw[this];omega
theorem wrap_i64{n:Int}(h0:-9223372036854775808<=n)(h1:n<=9223372036854775807):IntKind.i64.wrap n=n:=by
 unfold IntKind.wrap
 have e1:((2:Int) ^ IntKind.i64.bits)=18446744073709551616:=by kernel_rfl
 have e2:((2:Int) ^ (IntKind.i64.bits-1))=9223372036854775808:=by kernel_rfl
 have e3:IntKind.i64.signed=true:=by kernel_rfl
 simp only[e1,e2,e3,x19j,x19v]
 split<;>omega
theorem u8_lt256(c:UInt8):(c.toNat:Int)<256:=by have:=c.toNat_lt;omega
theorem take_snoc{l:List UInt8}{f i:Nat}(h0:f<=i)(h:i<l.length):(l.drop f).take (i+1-f)=(l.drop f).take (i-f)++[l[i]]:=by
 rw[show i+1-f=(i-f)+1 from by omega,List.take_add_one,x19d,show f+(i-f)=i from by omega,x18d h]
 rfl
theorem x142{l:List UInt8}{f i:Nat}(h0:f<=i)(h:i<l.length):l.drop f=(l.drop f).take (i-f)++l[i]::l.drop (i+1):=by
 have h1:=(x1bu (i-f) (l.drop f)).symm
 rw[x1bc,show f+(i-f)=i from by omega,x1ba h]at h1
 exact h1
theorem l_Cut(d:Nat){c:UInt8}{l:List UInt8}(hl:l.length<=100000):∀(suf:List UInt8) (i j f:Nat) (acc:List (List UInt8)) (v:AV) (m:Mem) (fc:Nat),l.drop i=suf->suf.length<j->f<=i->i<=l.length->c∉(l.drop f).take (i-f)->acc++cutM c (l.drop f)=cutM c l->acc.length<=i->Gq 1 strE 0 [25,33] m v acc ->
 RetF (λx=>Sl strE x (cutM c l)) (x2q (xow d) [] 0 j (Tx l) (U8 c.toNat) v (I f) (I i) m fc):=by
 intro suf
 induction suf with
 |nil=>
  intro i j f acc v m fc hd hj hfi hil hno hac hal hG
  obtain⟨j,rfl⟩:∃k,j=k+1:=⟨j-1,by simp at hj;omega⟩
  have hii:i=l.length:=by have:=x19a.mp hd;omega
  have hlt:¬((i:Int)<(l.length:Int)):=by omega
  rw[x182 (by simp;omega)]at hno
  rw[xwx hno]at hac
  obtain⟨v',m',A1,G1,n1,f1⟩:=hG.app (t0:=33) (bytes:=16) (s0:=fc+4+5) xue (by omega) (by simp) (by unfold xpc;omega) (l.drop f)
  have el:∀objs,elems objs 1 (.slit [Tx (l.drop f)] 1 true)=some (strE (l.drop f),1):=λ_=>rfl
  simp only[x2q]
  unfold x6c x9j
  simp only[xr4,xoy,xq1,hlt,x185,xpl,x_slo (show f<=l.length by omega),xx0,el,A1]
  obtain⟨b,hb,hz⟩:=G1.frz xue xyv
  exact RetF.mk hz (hac▸hb)
 |cons x suf ih=>
  intro i j f acc v m fc hd hj hfi hil hno hac hal hG
  obtain⟨j,rfl⟩:∃k,j=k+1:=⟨j-1,by simp at hj;omega⟩
  obtain⟨hi,hx,hd1⟩:=xrx hd
  have hlt:(i:Int)<(l.length:Int):=by omega
  have w7:w64 ((i:Int)+1)=((i+1:Nat):Int):=by rw[xq4 (by omega) (by omega)];omega
  simp only[x2q]
  unfold x6c x9k
  simp only[xr4,xoy,xq1,hlt,x184,xph,x_idx hi,u8_eq]
  by_cases c1:l[i]=c
  .have c2:((l[i]).toNat:Int)=c.toNat:=by rw[c1]
   obtain⟨v',m',A1,G1,n1,f1⟩:=hG.app (t0:=25) (bytes:=16) (s0:=fc+4+11) xue (by omega) (by simp) (by unfold xpc;omega) ((l.drop f).take (i-f))
   have el:∀objs,elems objs 1 (.slit [Tx ((l.drop f).take (i-f))] 1 true)=some (strE ((l.drop f).take (i-f)),1):=λ_=>rfl
   have hcut:cutM c (l.drop f)=(l.drop f).take (i-f)::cutM c (l.drop (i+1)):=by
    conv=>lhs;rw[x142 hfi hi,c1]
    exact xwy _ hno
   simp only[c2,x184,xph,x_sl hfi (show i<=l.length by omega),xoy,xx0,el,A1,xqv,w7]
   unfold x3i
   simp only[xqv,xoy,w7]
   refine ih (i+1) j (i+1) (acc++[(l.drop f).take (i-f)]) v' m' _ hd1 (by simp at hj;omega) (x17z _) (by omega) (by rw[Nat.sub_self];simp) ?_ (by simp;omega) G1
   rw[<-hac,hcut];simp
  .have c2:¬((l[i]).toNat:Int)=c.toNat:=λh=>c1 (xuy (by omega))
   simp only[c2,x185,xpl]
   unfold x3i
   simp only[xqv,xoy,w7]
   refine ih (i+1) j f acc v m _ hd1 (by simp at hj;omega) (by omega) (by omega) ?_ hac (by omega) hG
   rw[take_snoc hfi hi]
   intro h
   rcases x19k.1 h with h|h
   .exact hno h
   .rw[x18w]at h;exact c1 h.symm
theorem w_Cut(d:Nat)(c:UInt8){l:List UInt8}(hl:l.length<=100000):∃x,Sl strE x (cutM c l)/\∀m,xox (xow (d+1)) x15 [Tx l,U8 c.toNat] m=some (x,m):=by
 obtain⟨x,m',x',h1,h2,h3⟩:RetF (λx=>Sl strE x (cutM c l)) (xow (d+1) [] x15 [Tx l,U8 c.toNat] mem0):=by
  rw[xkt]
  unfold x7p x6d x9l
  exact l_Cut d hl l 0 NN 0 [] nilS _ _ rfl (by rw[xq7];omega) (x17z _) (x1b1 _) (by simp) rfl (x17z _) Gq.nil
 exact⟨x',h3,λm=>xwu rfl h1 h2⟩
def numV(o:Option Int):AV:=match o with
 |some n=>.tup [I n,B true]
 |none=>.tup [I 0,B false]
theorem l_Number(d:Nat){l:List UInt8}{at_:Nat}(hat:at_<=1){r:List UInt8}(hr:l.drop at_=r)(h18:r.length<=18):∀(suf:List UInt8) (i j:Nat) (m:Mem) (fc:Nat),r.drop i=suf->suf.length<j->(r.take i).all isDig=true ->
 ∃m',x2r (xow d) [] 0 j (Tx l) (I at_) (I (valD 0 (r.take i))) (I (at_+i:Nat)) m fc=some (numV (if r.all isDig=true then some (if at_=1 then -(valD 0 r:Int)else valD 0 r)else none),m'):=by
 have hrl:r.length=l.length-at_:=by rw[<-hr,x19i]
 intro suf
 induction suf with
 |nil=>
  intro i j m fc hd hj hall
  obtain⟨j,rfl⟩:∃k,j=k+1:=⟨j-1,by simp at hj;omega⟩
  have hii:r.length<=i:=x19a.mp hd
  have hlt:¬(((at_+i:Nat):Int)<(l.length:Int)):=by omega
  rw[x182 hii]at hall ⊢
  have hb:=xww r 0 hall
  have hp:10 ^ r.length<=10 ^ 18:=Nat.pow_le_pow_right (by omega) h18
  rw[x17u hall]
  simp only[x2r]
  unfold x6f x9m x6e
  simp only[xr4,xoy,xq1,hlt,x185,xpl,xu4]
  rcases(by omega:at_=0\/at_=1)with h|h
  .subst h
   exact⟨m,rfl⟩
  .subst h
   have w1:w64 (0-(valD 0 r:Int))=-(valD 0 r:Int):=by rw[xq4 (by omega) (by omega)];omega
   simp only[show decide (((1:Nat):Int)=1)=true from rfl,xph,sNeg_I,xoy,w1]
   exact⟨m,rfl⟩
 |cons x suf ih=>
  intro i j m fc hd hj hall
  obtain⟨j,rfl⟩:∃k,j=k+1:=⟨j-1,by simp at hj;omega⟩
  obtain⟨hi,hx,hd1⟩:=xrx hd
  have hi2:at_+i<l.length:=by omega
  have hlt:((at_+i:Nat):Int)<(l.length:Int):=by omega
  have hxl:l[at_+i]=x:=by
   rw[<-hx]
   have:r[i]?=l[at_+i]?:=by rw[<-hr,x19d]
   rw[x18d hi,x18d hi2]at this
   exact(x198 this).symm
  have hidx:sIdx Tryz.prog x5 (Tx l) (I (at_+i:Nat))=some (U8 x.toNat):=by rw[x_idx hi2,hxl]
  have hts:r.take (i+1)=r.take i++[x]:=by rw[List.take_add_one,x18d hi,hx];rfl
  have w7:w64 (((at_+i:Nat):Int)+1)=((at_+(i+1):Nat):Int):=by rw[xq4 (by omega) (by omega)];omega
  simp only[x2r]
  unfold x6f
  simp only[xr4,xoy,xq1,hlt,x184,xph,hidx,u8_lt,xt3,xt4,sW_f]
  have hxlt:=u8_lt256 x
  cases hdg:isDig x
  .have hno:r.all isDig=false:=by
    rw[x18l]
    intro h
    have:=x181.mp h x (by rw[<-hx];exact x194 hi)
    rw[hdg]at this;cases this
   rw[x17t (by rw[hno];simp)]
   unfold isDig at hdg
   by_cases c1:(x.toNat:Int)<48
   .simp only[c1,x184,x18k,xqa,xoy,xq5,xpf,xph]
    exact⟨m,rfl⟩
   .have c2:(57:Int)<x.toNat:=by
     rw[x190 (show 48<=x.toNat by omega),x19j,decide_eq_false_iff_not]at hdg
     omega
    simp only[c1,x185,x18b,xpf,xoy,hidx,u8_gt,c2,x184,xq5,xqa,xph]
    exact⟨m,rfl⟩
  .have hg:=xuz hdg
   have c1:¬(x.toNat:Int)<48:=by omega
   have c2:¬(57:Int)<x.toNat:=by omega
   have hall2:(r.take (i+1)).all isDig=true:=by rw[hts,x1bb,hall];simp[hdg]
   have hb:=xww (r.take i) 0 hall
   have hp:10 ^ (r.take i).length<=10 ^ 17:=Nat.pow_le_pow_right (by omega) (by rw[x19n];omega)
   have e1:IntKind.u8.wrap ((x.toNat:Int)-48)=(x.toNat:Int)-48:=wrap_u8 (by omega) (by omega)
   have e2:IntKind.i64.wrap ((x.toNat:Int)-48)=(x.toNat:Int)-48:=wrap_i64 (by omega) (by omega)
   have w1:w64 (10*(valD 0 (r.take i):Int))=10*(valD 0 (r.take i):Int):=xq4 (by omega) (by omega)
   have w2:w64 (10*(valD 0 (r.take i):Int)+((x.toNat:Int)-48))=(valD 0 (r.take (i+1)):Int):=by
    rw[hts,xyp,xvr,xq4 (by omega) (by omega)];omega
   simp only[c1,c2,x185,x18b,xpf,xoy,hidx,u8_gt,xq5,xqa,xpl,sMul_I,u8_sub,e1,c_int,e2,w1,xqv,w2,w7]
   exact ih (i+1) j m _ hd1 (by simp at hj;omega) hall2
theorem w_Number(d:Nat){l:List UInt8}(hl:l.length<=100000){k:Nat}(hk:k<=18)(m:Mem):xox (xow (d+1)) x16 [Tx l,I k] m=some (numV (nbrM l k),m):=by
 suffices h:∃m',xow (d+1) [] x16 [Tx l,I k] mem0=some (numV (nbrM l k),m') by
  obtain⟨m',h⟩:=h
  cases hn:nbrM l k with
  |none=>rw[hn]at h;exact call0_tup rfl h rfl
  |some n=>rw[hn]at h;exact call0_tup rfl h rfl
 rw[xku]
 unfold x7q x6h x9n
 simp only[mem0,xr4,xoy,xsm,xt3,xt4,sW_t]
 have four:∀(at_:Nat) (m:Mem) (fc:Nat),at_<=1->(at_=1↔l.head?=some 45)->∃m',x3j (xow d) [] 0 (Tx l) (I k) (I at_) m fc=some (numV (nbrM l k),m'):=by
  intro at_ m fc hat hs
  have hr:(if l.head?=some 45 then l.tail else l)=l.drop at_:=by
   rcases(by omega:at_=0\/at_=1)with h|h
   .subst h
    rw[x17t (λh=>absurd (hs.2 h) (by decide))];rfl
   .subst h
    rw[x17u (hs.1 rfl),List.drop_one]
  have hsg:∀v:Nat,(if l.head?=some 45 then -(v:Int)else(v:Int))=if at_=1 then -(v:Int)else(v:Int):=λv=>by
   by_cases h:at_=1
   .rw[x17u h,x17u (hs.1 h)]
   .rw[x17t h,x17t (λh2=>h (hs.2 h2))]
  have hle:at_<=l.length:=by
   rcases(by omega:at_=0\/at_=1)with h|h
   .omega
   .have:=hs.1 h
    cases l with
    |nil=>simp at this
    |cons x t=>simp;omega
  have w1:w64 ((l.length:Int)-at_)=((l.length-at_:Nat):Int):=by rw[xq4 (by omega) (by omega)];omega
  unfold nbrM
  dsimp only
  rw[hr,hsg]
  unfold x3j
  simp only[xr4,xoy,xu4,xt3,xt4,sW_f]
  have hdl:(l.drop at_).length=l.length-at_:=x19i
  by_cases c1:(l.length:Int)=at_
  .have:l.drop at_=[]:=x19s.1 (by omega)
   rw[x17u (.inl this)]
   have c1':decide ((l.length:Int)=(at_:Int))=true:=x190 c1
   rw[c1']
   simp only[x18k,xqa,xoy,xq5,xpf,xph,sW_U,sW_t,sW_f]
   exact⟨m,rfl⟩
  have hne:l.drop at_≠[]:=λh=>by rw[h]at hdl;simp at hdl;omega
  have c1':decide ((l.length:Int)=(at_:Int))=false:=x1bs c1
  rw[c1']
  simp only[x18b,xpf,xoy,xr4,sSub_I,w1,xsm,xq5,xqa,sW_f]
  by_cases c2:(k:Int)<((l.length-at_:Nat):Int)
  .rw[x17u (.inr (.inl (by omega)))]
   simp only[c2,x184,x18k,xqa,xoy,xq5,xpf,xph,sW_U]
   exact⟨m,rfl⟩
  have hi:at_<l.length:=by omega
  have hh:(l.drop at_).head?=some l[at_]:=by rw[x1ba hi];rfl
  simp only[c2,x185,x18b,xpf,xoy,x_idx hi,u8_eq,xq5,xqa,sW_f,sW_t]
  have fin:¬((l.drop at_).head?=some 48/\1<l.length)->∀fc,∃m',x6g (xow d) [] 0 (Tx l) (I at_) (I 0) m fc=some (numV (if l.drop at_=[]\/k<(l.drop at_).length\/((l.drop at_).head?=some 48/\1<l.length)\/(l.drop at_).all isDig=false then none else some (if at_=1 then -(valD 0 (l.drop at_):Int)else valD 0 (l.drop at_))),m'):=by
   intro h3 fc
   unfold x6g
   obtain⟨m',h⟩:=l_Number d hat (r:=l.drop at_) rfl (by omega) (l.drop at_) 0 NN m (fc+2) rfl (by rw[xq7];omega) rfl
   refine⟨m',h.trans ?_⟩
   cases hall:(l.drop at_).all isDig
   .rw[x17t (by simp),x17u (.inr (.inr (.inr rfl)))]
   .have hn:¬(l.drop at_=[]\/k<(l.drop at_).length\/((l.drop at_).head?=some 48/\1<l.length)\/true=false):=by
     rintro(h|h|h|h)
     .exact hne h
     .omega
     .exact h3 h
     .cases h
    rw[x17u rfl,x17t hn]
  by_cases c3:((l[at_]).toNat:Int)=48
  .have c4:l[at_]=48:=xuy (by show(l[at_]).toNat=48;omega)
   simp only[c3,x184,xpf,xoy,xr4,xsm,xq5,xqa]
   by_cases c5:(1:Int)<l.length
   .rw[x17u (.inr (.inr (.inl ⟨by rw[hh,c4],by omega⟩)))]
    simp only[c5,x184,xph,xq5,xpf,xoy,sW_t,x18b]
    exact⟨m,rfl⟩
   .simp only[c5,x185,xpl,xq5,xqa,xoy]
    exact fin (λh=>c5 (by omega)) _
  .simp only[c3,x185,xqa,xoy,xq5,xpl,sW_U]
   refine fin (λh=>c3 ?_) _
   have h1:=h.1
   rw[hh]at h1
   rw[x198 h1];rfl
 by_cases c:0<l.length
 .have c':(0:Int)<l.length:=by omega
  have hh:l.head?=some l[0]:=by
   cases l with
   |nil=>simp at c
   |cons x t=>rfl
  have hix:sIdx Tryz.prog x5 (Tx l) (I 0)=some (U8 (l[0]).toNat):=x_idx (k:=0) c
  simp only[c',x184,xpf,xoy,hix,u8_eq,xq5]
  by_cases c2:((l[0]).toNat:Int)=45
  .simp only[c2,x184,xph]
   refine four 1 _ _ (x17z _) ⟨λ_=>?_,λ_=>rfl⟩
   rw[hh]
   congr 1
   exact xuy (by show(l[0]).toNat=45;omega)
  .simp only[c2,x185,xpl]
   refine four 0 _ _ (by omega) ⟨λh=>(by cases h),λh=>?_⟩
   rw[hh]at h
   exact absurd (by rw[x198 h];rfl) c2
 .have c':¬(0:Int)<l.length:=by omega
  have hl0:l=[]:=x19s.1 (by omega)
  simp only[c',x185,xqa,xoy,xq5,xpl]
  refine four 0 _ _ (by omega) ⟨λh=>(by cases h),λh=>?_⟩
  rw[hl0]at h;cases h
end Go.Ix
