import Derived.Test.YtpeakdjfagbpcaaGreatWg0
import Derived.Laws.Strings
import Derived.Test.YtpeakdjfagbpcaaGreatFxSound
import Derived.Laws.StructEq
set_option linter.unusedSimpArgs false
namespace Go.Ix
open Go.Proofs
theorem x2de{σ R:Type}{N:Nat}(X:Nat->Nat->σ->Mem->Nat->R)(Inv:Nat->σ->Mem->Prop)(Q:R->Prop)(hstep:∀n k s m fc,k<N->Inv k s m->(∀s' m' fc',Inv (k+1) s' m'->Q (X n (k+1) s' m' fc'))->Q (X (n+1) k s m fc))(hend:∀n s m fc,Inv N s m->Q (X (n+1) N s m fc)):∀n k s m fc,k<=N->N<n+k->Inv k s m->Q (X n k s m fc):=by
 intro n
 induction n with
 |zero=>intro k s m fc h1 h2;omega
 |succ n ih=>
  intro k s m fc h1 h2 hI
  rcases Nat.lt_or_ge k N with h|h
  .exact hstep n k s m fc h hI fun s' m' fc' hI'=>ih (k+1) s' m' fc' h (by omega) hI'
  .have:k=N:=by omega
   subst this
   exact hend n s m fc hI
def RetF(T:AV->Prop)(r:O2):Prop:=∃a m' a',r=some (a,m')/\frz m'.get deep a=some a'/\T a'
theorem RetF.st{T:AV->Prop}{a:AV}{m:Mem}(h:still a=true)(ht:T a):RetF T (some (a,m)):=⟨a,m,a,rfl,x2fm _ 4 h,ht⟩
theorem RetF.tup{T:AV->Prop}{l:List AV}{m:Mem}(h:l.all still=true)(ht:T (.tup l)):RetF T (some (.tup l,m)):=⟨_,m,_,rfl,frz_tup h,ht⟩
theorem RetF.mk{T:AV->Prop}{a a':AV}{m:Mem}(h:frz m.get deep a=some a')(ht:T a'):RetF T (some (a,m)):=⟨a,m,a',rfl,h,ht⟩
theorem x2ei{T:AV->Prop}{call:x2cj}{f:FuncId}{l:List AV}(hl:l.all still=true)(h:RetF T (call [] f l mem0))(m:Mem):∃a,T a/\x2cm call f l m=some (a,m):=by
 obtain⟨a,m',a',h1,h2,h3⟩:=h
 exact⟨a',h3,call0_frz hl h1 h2⟩
theorem x2ek{v:AV}{call:x2cj}{f:FuncId}{l:List AV}(hl:l.all still=true)(h:RetF (fun a=>a=v) (call [] f l mem0))(m:Mem):x2cm call f l m=some (v,m):=by
 obtain⟨a,h1,h2⟩:=x2ei hl h m
 rw[h2,h1]
theorem x2mr{objs:Id->Option Ob}{a b a' b':AV}(ha:frz objs 5 a=some a')(hb:frz objs 5 b=some b'):frz objs deep (.tup [a,b])=some (.tup [a',b']):=by
 show([a,b].mapM (frz objs 5)).map AV.tup=_
 simp only[List.mapM_cons,List.mapM_nil,ha,hb]
 rfl
theorem x2p9{objs:Id->Option Ob}{a b c a' b' c':AV}(ha:frz objs 5 a=some a')(hb:frz objs 5 b=some b')(hc:frz objs 5 c=some c'):frz objs deep (.tup [a,b,c])=some (.tup [a',b',c']):=by
 show([a,b,c].mapM (frz objs 5)).map AV.tup=_
 simp only[List.mapM_cons,List.mapM_nil,ha,hb,hc]
 rfl
theorem frz_I{objs:Id->Option Ob}{k:Nat}{x:Int}:frz objs (k+1) (I x)=some (I x):=rfl
theorem Gr.frzk{α:Type}{z:Nat}{enc:α->List AV}{l:List α}{a:AV}(hz:∀x,(enc x).length=z)(hs:∀x,(enc x).all still1=true){u t k:Nat}{m:Mem}(h:Gr z enc u t m a l):∃a',Sl enc a' l/\Go.Ix.frz m.get (k+2) a=some a':=by
 rcases h with ⟨rfl,rfl⟩|⟨s,ver,rfl,hg⟩
 .exact⟨nilS,Or.inl ⟨rfl,rfl⟩,rfl⟩
 .have hl:=x2f4 hz l
  refine⟨.slit (l.flatMap enc) l.length false,Sl.lit l false,?_⟩
  have:=x2ia (objs:=m.get) (id:=(u,s,t)) (cs:=l.flatMap enc) (ver:=ver) (off:=0) (n:=l.length) (z:=z) (k:=k) (f:=false) (x:=true) hg (by omega) (by
   rw[List.drop_zero,List.take_of_length_le (by omega)];exact x2hk hs l)
  rw[List.drop_zero,List.take_of_length_le (by omega)]at this
  exact this
theorem Gr.len{α:Type}{z:Nat}{enc:α->List AV}{l:List α}{a:AV}{u t:Nat}{m:Mem}{y e:TypeId}(ht:Tryz.prog.underlying y=some (.slice e))(h:Gr z enc u t m a l):sLen Tryz.prog y a=some (I l.length):=by
 rcases h with ⟨rfl,rfl⟩|⟨s,ver,rfl,hg⟩
 .exact x2kc ht
 .rfl
theorem x2h1{α:Type}{enc:α->List AV}{m:Mem}{l:List α}{k:Nat}(hk:k<l.length)(j:Nat){v:AV}(hv:((enc l[k]).drop j).head?=some v):sLd false 1 (.plit (((l.drop k).flatMap enc).drop j)) m=some v:=by
 rw[x2e2 hk,List.flatMap_cons]
 have hj:j<(enc l[k]).length:=by
  rcases Nat.lt_or_ge j (enc l[k]).length with h|h
  .exact h
  .rw[List.drop_of_length_le h]at hv;cases hv
 rw[List.drop_append_of_le_length (by omega)]
 cases hd:(enc l[k]).drop j with
 |nil=>rw[hd]at hv;cases hv
 |cons x r=>
  rw[hd]at hv
  simp at hv
  subst hv
  rfl
theorem x2jl(d:Nat)(a b c:Int)(m:Mem):x2cm (x2cl (d+1)) xz [I a,I b,I c] m=some (B (wi a b c),m):=by
 refine call0 rfl (m':=⟨[],1⟩) ?_ rfl
 rw[x1b5]
 unfold xgc xip wi
 by_cases h:b<=a<;>by_cases h2:a<=c<;>simp[h,h2,mem0]
theorem x2pa(d:Nat)(a b:Int)(m:Mem)(h:-9223372036854775807<=b/\b<=9223372036854775807):x2cm (x2cl (d+2)) x1y [I a,I b] m=some (B (wi a (-b) b),m):=by
 refine call0 rfl (m':=⟨[],1⟩) ?_ rfl
 rw[x1bc]
 unfold xgj xix
 simp(disch:=omega) [mem0,x2jl,x2cq]
theorem w_size7(d:Nat)(a:Int)(m:Mem)(h1:-9223372036854775808<a)(h2:a<=9223372036854775807):x2cm (x2cl (d+1)) x5j [I a] m=some (I (a.natAbs:Int),m):=by
 refine call0 rfl (m':=⟨[],1⟩) ?_ rfl
 rw[x1bk]
 unfold xgt xj8
 simp(disch:=omega) [mem0,x2cq]
 split<;>omega
abbrev T(s:ByteArray):AV:=.sc (.string s)
abbrev U8(c:Int):AV:=.sc (.int .u8 c)
def u8E(b:UInt8):List AV:=[U8 b.toNat]
theorem u8E_len(b:UInt8):(u8E b).length=1:=rfl
theorem u8_ge(x y:Operand)(a b:Int):sBin Tryz.prog .geq xc x y (U8 a) (U8 b)=some (B (decide (b<=a))):=by kernel_rfl
theorem u8_le(x y:Operand)(a b:Int):sBin Tryz.prog .leq xc x y (U8 a) (U8 b)=some (B (decide (a<=b))):=by kernel_rfl
theorem u8_gt(x y:Operand)(a b:Int):sBin Tryz.prog .gtr xc x y (U8 a) (U8 b)=some (B (decide (b<a))):=by kernel_rfl
theorem u8_lt(x y:Operand)(a b:Int):sBin Tryz.prog .lss xc x y (U8 a) (U8 b)=some (B (decide (a<b))):=by kernel_rfl
theorem u8_eq(x y:Operand)(a b:Int):sBin Tryz.prog .eql xc x y (U8 a) (U8 b)=some (B (decide (a=b))):=by kernel_rfl
theorem u8_ne(x y:Operand)(a b:Int):sBin Tryz.prog .neq xc x y (U8 a) (U8 b)=some (B (!decide (a=b))):=by kernel_rfl
def teq(a b:ByteArray):Bool:=a.toList == b.toList
theorem t_eq(x y:Operand)(a b:ByteArray):sBin Tryz.prog .eql xn x y (T a) (T b)=some (B (teq a b)):=by kernel_rfl
@[simp] theorem sLenS_T(s:ByteArray):x2gy (T s)=some (I s.size):=rfl
theorem u_bytes:Tryz.prog.underlying x9e=some (.slice xc):=by kernel_rfl
theorem u_u8:Tryz.prog.underlying xc=some (.int .u8):=by kernel_rfl
theorem u_str:Tryz.prog.underlying xn=some .string:=by kernel_rfl
theorem cvt_bytes(s:ByteArray):sCvt Tryz.prog xn x9e (T s)=some (.slit (s.data.toList.flatMap u8E) s.data.toList.length false):=by
 have e:(s.data.toList.map fun b=>U8 b.toNat)=s.data.toList.flatMap u8E:=by
  induction s.data.toList with
  |nil=>rfl
  |cons b l ih=>rw[List.map_cons,List.flatMap_cons,ih];rfl
 simp only[sCvt,x2d8,x2jr,u_bytes,u_u8,u_str]
 rw[e,x2f4 (z:=1) u8E_len s.data.toList,Nat.mul_one]
theorem idx_T{s:ByteArray}{k:Nat}(h:k<s.data.toList.length):sIdx Tryz.prog xn (T s) (I k)=some (U8 (s.data.toList[k]).toNat):=by
 have:x2cr Tryz.prog (Instr.index xn (.string s) (.int .i64 k))=some (.int .u8 (s.data.toList[k]).toNat):=by
  have h2:s[k]?=some s.data.toList[k]:=by
   have h3:k<s.size:=by simpa using h
   rw[getElem?_pos s k h3]
   rfl
  simp only[Instr.index,asIntOf,asInt,underlying,program,Bind.bind,Sem.bind,x2cr,Pure.pure,u_str]
  rw[if_pos (by omega),Int.toNat_natCast,h2]
  rfl
 have e:sIdx Tryz.prog xn (T s) (I k)=(x2cr Tryz.prog (Instr.index xn (.string s) (.int .i64 k))).map x2dj:=by
  simp only[sIdx,I,x2d8]
 rw[e,this]
 rfl
def chOK(p:Bool)(c:Int):Bool:=(decide (97<=c)&&decide (c<=122))||(decide (65<=c)&&decide (c<=90))||(p&&(decide (c=45)||(decide (48<=c)&&decide (c<=57))))
def x2gf:Nat->List UInt8->Bool
 |_,[]=>true
 |k,c::r=>chOK (decide (0<k)) c.toNat&&x2gf (k+1) r
def nmOK(s:ByteArray):Bool:=decide (0<s.size)&&decide (s.size<=12)&&x2gf 0 s.data.toList
theorem ld_u8{m:Mem}{l:List UInt8}{k:Nat}(hk:k<l.length):sLd false 1 (.plit ((l.drop k).flatMap u8E)) m=some (U8 l[k].toNat):=by
 rw[x2e2 hk,List.flatMap_cons]
 rfl
theorem l_isName(call:x2cj)(hs:FHs)(u:Nat){a:AV}{l:List UInt8}(h:Sl u8E a l)(hl:l.length<=12):∀(suf:List UInt8) (k j:Nat) (m:Mem) (fc:Nat),l.drop k=suf->suf.length<j ->
 x32 call hs u j a (I l.length) (I k) m fc=some (B (x2gf k suf),m):=by
 intro suf
 induction suf with
 |nil=>
  intro k j m fc hd hj
  obtain⟨j,rfl⟩:∃i,j=i+1:=⟨j-1,by simp at hj;omega⟩
  have hk:¬((k:Int)<(l.length:Int)):=by have:=List.drop_eq_nil_iff.mp hd;omega
  simp only[x32]
  unfold xel xx
  simp[hk,x2gf]
 |cons e r ih=>
  intro k j m fc hd hj
  obtain⟨j,rfl⟩:∃i,j=i+1:=⟨j-1,by simp at hj;omega⟩
  obtain⟨hk,he,hd⟩:=x2ge hd
  have hk':(k:Int)<(l.length:Int):=by omega
  have ix:=h.ix u8E_len hk
  have ld:=ld_u8 (m:=m) hk
  have next:∀fc,x32 call hs u j a (I l.length) (I (w64 ((k:Int)+1))) m fc=some (B (x2gf (k+1) r),m):=fun fc=>by
   rw[x2cq (by omega) (by omega)]
   exact ih (k+1) j m fc hd (by simp at hj;omega)
  rw[he]at ld
  have hk0:decide ((0:Int)<(k:Int))=decide (0<k):=by simp
  simp only[x32]
  unfold xel x9d x9c x9b xu
  simp only[x2db,hk',decide_true,x2d9,x2cs,ix,ld,u8_ge,u8_le,u8_eq,sW_t,sW_f]
  simp only[x2gf,chOK]
  generalize (e.toNat:Int)=c
  by_cases a1:97<=c<;>by_cases a2:c<=122<;>by_cases b1:65<=c<;>by_cases b2:c<=90<;>by_cases d1:48<=c<;>by_cases d2:c<=57<;>by_cases d0:c=45 <;>
   first
   |(exfalso;omega)
   |(by_cases hp:0<k<;>simp[a1,a2,b1,b2,d1,d2,d0,hp,u8_ge,u8_le,u8_eq,next])
theorem w_isName(d:Nat)(s:ByteArray)(m:Mem):x2cm (x2cl (d+1)) x6v [T s] m=some (B (nmOK s),m):=by
 refine call0 rfl (m':=⟨[],1⟩) ?_ rfl
 rw[x1bv]
 have e0:teq s ⟨#[]⟩=decide (s.size=0):=by
  unfold teq
  rw[ByteArray.toList_eq,ByteArray.toList_eq]
  cases hs:s.data.toList with
  |nil=>
   have:s.size=0:=by show s.data.size=0;rw[<-Array.length_toList,hs];rfl
   simp[this]
  |cons x r=>
   have:s.size=r.length+1:=by show s.data.size=_;rw[<-Array.length_toList,hs];rfl
   simp[this]
 have hsz:s.data.toList.length=s.size:=rfl
 unfold xh5 xjj nmOK
 simp only[t_eq,e0,x2cs]
 by_cases h0:s.size=0
 .simp[h0,mem0]
 .by_cases h12:s.size<=12
  .have hL:=l_isName (x2cl d) [] 0 (Sl.lit (enc:=u8E) s.data.toList false) (by omega) s.data.toList 0 NN ⟨[],1⟩ (fc:=12) rfl (by rw[x2cz];omega)
   have hlen:sLen Tryz.prog x9e (.slit (s.data.toList.flatMap u8E) s.data.toList.length false)=some (I s.data.toList.length):=(Sl.lit (enc:=u8E) s.data.toList false).len u_bytes
   unfold xem
   simp only[cvt_bytes,hlen]
   simp[h0,h12,show ¬((12:Int)<s.size) by omega,show 0<s.size by omega,mem0]
   exact hL
  .simp[h0,h12,show(12:Int)<s.size by omega,mem0]
theorem l_IsName(call:x2cj)(hs:FHs)(u:Nat){s:ByteArray}(hl:s.size<=12):∀(suf:List UInt8) (k j:Nat) (m:Mem) (fc:Nat),s.data.toList.drop k=suf->suf.length<j ->
 x2v call hs u j (T s) (I k) m fc=some (B (x2gf k suf),m):=by
 have hsz:s.data.toList.length=s.size:=rfl
 intro suf
 induction suf with
 |nil=>
  intro k j m fc hd hj
  obtain⟨j,rfl⟩:∃i,j=i+1:=⟨j-1,by simp at hj;omega⟩
  have hk:¬((k:Int)<(s.size:Int)):=by have:=List.drop_eq_nil_iff.mp hd;omega
  simp only[x2v]
  unfold xdm x4k
  simp[hk,x2gf]
 |cons e r ih=>
  intro k j m fc hd hj
  obtain⟨j,rfl⟩:∃i,j=i+1:=⟨j-1,by simp at hj;omega⟩
  obtain⟨hk,he,hd⟩:=x2ge hd
  have hk':(k:Int)<(s.size:Int):=by omega
  have ix:=idx_T hk
  have next:∀fc,x2v call hs u j (T s) (I (w64 ((k:Int)+1))) m fc=some (B (x2gf (k+1) r),m):=fun fc=>by
   rw[x2cq (by omega) (by omega)]
   exact ih (k+1) j m fc hd (by simp at hj;omega)
  rw[he]at ix
  simp only[x2v]
  unfold xdm
  simp only[sLenS_T,x2cs,x2db,hk',decide_true,x2d9,ix,u8_ge]
  simp only[x2gf,chOK]
  generalize (e.toNat:Int)=c
  by_cases a1:97<=c<;>by_cases a2:c<=122<;>by_cases b1:65<=c<;>by_cases b2:c<=90<;>by_cases d1:c<48<;>by_cases d2:57<c<;>by_cases d0:c=45 <;>
   first
   |(exfalso;omega)
   |(have d1':(48<=c)=¬(c<48):=by rw[Int.not_lt]
     have d2':(c<=57)=¬(57<c):=by rw[Int.not_lt]
     by_cases hp:k=0<;>simp[a1,a2,b1,b2,d1,d2,d1',d2',d0,hp,Nat.pos_iff_ne_zero,u8_ge,u8_le,u8_eq,u8_ne,u8_lt,u8_gt,next]<;>(subst hp;have:=next (fc+44);simpa using this))
theorem w_IsName(d:Nat)(s:ByteArray)(m:Mem):x2cm (x2cl (d+1)) x6s [T s] m=some (B (nmOK s),m):=by
 refine call0 rfl (m':=⟨[],1⟩) ?_ rfl
 rw[x1bd]
 have hsz:s.data.toList.length=s.size:=rfl
 unfold xgk xiy nmOK
 by_cases h0:s.size=0
 .simp[h0,mem0]
 .by_cases h12:s.size<=12
  .have hL:=l_IsName (x2cl d) [] 0 (s:=s) h12 s.data.toList 0 NN ⟨[],1⟩ (fc:=10) rfl (by rw[x2cz];omega)
   unfold xdn
   simp[h0,h12,show ¬((12:Int)<s.size) by omega,show ¬((s.size:Int)<1) by omega,show 0<s.size by omega,mem0]
   exact hL
  .simp[h0,h12,show(12:Int)<s.size by omega,show ¬((s.size:Int)<1) by omega,mem0]
theorem x2rw{i j:Id}{cs:List AV}{v:Nat}:∀{h:Hp} {b:Bool},hget h i=some (.row cs v b)->∃b',hget (shut1 h j) i=some (.row cs v b'):=by
 intro h b hi
 have:=congrFun (x2l1 [j] h) i
 rw[show x2fz [j] h=shut1 h j from rfl]at this
 rw[this]
 unfold shut
 split
 .rw[hi];exact⟨_,rfl⟩
 .exact⟨b,hi⟩
theorem x2pb{i:Id}{cs:List AV}{v:Nat}:∀(ids:List Id) {h:Hp} {b:Bool},hget h i=some (.row cs v b)->∃b',hget (x2fz ids h) i=some (.row cs v b')
 |[],h,b,hi=>⟨b,hi⟩
 |j::r,h,b,hi=>by
  obtain⟨b',h'⟩:=x2rw (j:=j) hi
  exact x2pb r h'
theorem x2rx{call:x2cj}{f:FuncId}{l l':List AV}{m m':Mem}{r r':AV}(hl:l.mapM (Go.Ix.frz m.get deep)=some l')(h:call [] f l' mem0=some (r,m'))(hr:Go.Ix.frz m'.get deep r=some r') :
 ∃m2:Mem,x2cm call f l m=some (r',m2)/\m2.next=m.next/\∀i cs v b,m.get i=some (.row cs v b)->∃b',m2.get i=some (.row cs v b'):=by
 refine⟨⟨x2fz (l.flatMap (x2cv m.get deep)) m.hp,m.next⟩,?_,rfl,fun i cs v b hi=>x2pb _ hi⟩
 unfold x2cm
 rw[hl]
 simp only[h,hr]
 rfl
structure Scene where
 nm:ByteArray
 day:Int
 bl:Int
def Scene.c(s:Scene):List AV:=[T s.nm,I s.day,I s.bl]
theorem Scene.len(s:Scene):s.c.length=3:=rfl
theorem x2dr:Tryz.prog.underlying x4=some (.slice x6n):=by kernel_rfl
theorem x2ry:∃i,Tryz.prog.info? x6n=some i/\i.size=3:=by
 have:(Tryz.prog.info? x6n).map (·.size)=some 3:=by kernel_rfl
 rw[Option.map_eq_some_iff]at this
 exact this
theorem x2l6:xw=[T ⟨#[]⟩,I 0,I 0]:=by kernel_rfl
@[simp] theorem cells_T(s:ByteArray):(T s).cells=[T s]:=rfl
@[simp] theorem one_T(s:ByteArray):(T s).one=true:=rfl
theorem x2rz{a:AV}{l:List Scene}(h:Sl Scene.c a l){k:Nat}(hk:k<=l.length)(h0:l≠[]):∃a',Sl Scene.c a' (l.take k)/\x2f2 Tryz.prog x4 a none (some (I k))=some a':=by
 rcases h with ⟨_,rfl⟩|⟨x,rfl⟩
 .exact absurd rfl h0
 obtain⟨i,hi,hs⟩:=x2ry
 have hl:=x2f4 Scene.len l
 refine⟨.slit ((l.take k).flatMap Scene.c) (l.take k).length (x&&decide ((k:Int)=(l.length:Int))),Sl.lit _ _,?_⟩
 have e1:x2d8 (.slit (l.flatMap Scene.c) l.length x)=none:=_root_.id rfl
 have e2:asI (I (k:Int))=some (k:Int):=rfl
 have e3:asI (I 0)=some 0:=rfl
 unfold x2f2
 simp only[e1,x2dr,hi,Option.getD_some,Option.getD_none,e2,e3,hs,Int.sub_zero,Int.toNat_natCast,Int.toNat_zero,Nat.zero_mul,List.drop_zero]
 rw[if_pos ⟨by omega,by omega,by omega,by omega⟩,List.length_take,Nat.min_eq_left hk]
 have ht:∀(l:List Scene) (k:Nat),(l.flatMap Scene.c).take (k*3)=(l.take k).flatMap Scene.c:=by
  intro l
  induction l with
  |nil=>intro k;simp
  |cons x r ih=>
   intro k
   cases k with
   |zero=>simp
   |succ k=>
    rw[List.flatMap_cons,List.take_succ_cons,List.flatMap_cons,Nat.succ_mul,show k*3+3=x.c.length+k*3 by rw[Scene.len];omega,List.take_length_add_append,ih]
 rw[ht]
def x2hl(nm:ByteArray):Int->List Scene->Int
 |_,[]=>-1
 |k,x::r=>bif teq x.nm nm then k else x2hl nm (k+1) r
theorem x2pc(nm:ByteArray):∀(l:List Scene) (k:Int),0<=k->decide (0<=x2hl nm k l)=l.any fun y=>teq y.nm nm
 |[],k,_=>by simp[x2hl]
 |x::r,k,hk=>by
  rw[x2hl,List.any_cons]
  cases teq x.nm nm with
  |true=>simp[hk]
  |false=>simpa using x2pc nm r (k+1) (by omega)
theorem x2s0(d:Nat)(hs:FHs)(x y:Scene)(m:Mem):∃m',x2cl (d+1) hs xv [.agg x.c,.plit y.c] m=some (B (teq x.nm y.nm),m'):=by
 rw[x1bx]
 unfold xh7 xjl
 simp[Scene.c,t_eq]
theorem x2s1(d:Nat)(hs:FHs){a:AV}{l:List Scene}{y:Scene}(h:Sl Scene.c a l)(hl:l.length<1000000)(u:Nat):∀(suf:List Scene) (k j:Nat) (m:Mem) (fc:Nat),l.drop k=suf->suf.length<j ->
 ∃m',x50 (x2cl (d+1)) hs u j a (.clo xv [.plit y.c]) (I l.length) (I k) m fc=some (I (x2hl y.nm k suf),m'):=by
 intro suf
 induction suf with
 |nil=>
  intro k j m fc hd hj
  obtain⟨j,rfl⟩:∃i,j=i+1:=⟨j-1,by simp at hj;omega⟩
  have hk:¬((k:Int)<(l.length:Int)):=by have:=List.drop_eq_nil_iff.mp hd;omega
  simp only[x50]
  unfold xev
  simp[hk,x4z,x2hl]
 |cons e r ih=>
  intro k j m fc hd hj
  obtain⟨j,rfl⟩:∃i,j=i+1:=⟨j-1,by simp at hj;omega⟩
  obtain⟨hk,he,hd⟩:=x2ge hd
  have hk':(k:Int)<(l.length:Int):=by omega
  have ix:=h.ix Scene.len hk
  have ld:=x2eg (m:=m) Scene.len (by omega) hk
  rw[he]at ld
  obtain⟨m1,hc⟩:=x2s0 d hs e y m
  have hinv:x2dv (x2cl (d+1)) hs 2 (.clo xv [.plit y.c]) [.agg e.c] m=some (B (teq e.nm y.nm),m1):=hc
  simp only[x50]
  unfold xev
  simp only[x2db,hk',decide_true,x2d9,x2cs,ix,ld,hinv,x2hl]
  cases ht:teq e.nm y.nm with
  |true=>simp
  |false=>
   obtain⟨m',h'⟩:=ih (k+1) j m1 (fc+11) hd (by simp at hj;omega)
   simp(disch:=omega) [x2cq]
   exact⟨m',by simpa using h'⟩
theorem x2s2(d:Nat){a:AV}{l:List Scene}{y:Scene}(h:Sl Scene.c a l)(hl:l.length<1000000) :
 ∃m',x2cl (d+3) [] x6w [a,.clo xv [.plit y.c]] mem0=some (B (l.any fun x=>teq x.nm y.nm),m'):=by
 obtain⟨m',h'⟩:=x2s1 d [] (y:=y) h hl 0 l 0 NN ⟨[],1⟩ 4 rfl (by rw[x2cz];omega)
 have hi:x2cl (d+2) [] x71 [a,.clo xv [.plit y.c]] mem0=some (I (x2hl y.nm 0 l),m'):=by
  rw[x1c5]
  unfold xhe xk2 xew
  simp[h.len x2dr,mem0]
  exact h'
 have hc:=fun m:Mem=>call0 (m:=m) (call:=x2cl (d+2)) (l:=[a,.clo xv [.plit y.c]]) (by simp only[List.all_cons,List.all_nil,h.still,Bool.true_and,Bool.and_true];rfl) hi rfl
 rw[x1bw]
 unfold xh6 xjk
 simp[hc,mem0,<-x2pc y.nm l 0 (by omega)]
def x2es(l:List Scene):Nat->List Scene->Int×Int
 |_,[]=>(0,0)
 |k,x::r=>
  bif !(nmOK x.nm)then((k:Int),4)
  else bif(l.take k).any (fun y=>teq y.nm x.nm)then((k:Int),5)
  else bif !(wi x.day 0 100000)||!(wi x.bl (-100000) 100000)then((k:Int),2)
  else x2es l (k+1) r
def x2el(l:List Scene):Int×Int:=bif decide (60<l.length)then(0,8)else x2es l 0 l
theorem x2s3(d:Nat)(u:Nat){a:AV}{l:List Scene}(h:Sl Scene.c a l)(hl:l.length<=60):∀(suf:List Scene) (k j:Nat) (m:Mem) (fc:Nat),l.drop k=suf->suf.length<j ->
 ∃m',x2u (x2cl (d+3)) [] u j a a (I l.length) (I k) m fc=some (.tup [I (x2es l k suf).1,I (x2es l k suf).2],m'):=by
 intro suf
 induction suf with
 |nil=>
  intro k j m fc hd hj
  obtain⟨j,rfl⟩:∃i,j=i+1:=⟨j-1,by simp at hj;omega⟩
  have hk:¬((k:Int)<(l.length:Int)):=by have:=List.drop_eq_nil_iff.mp hd;omega
  simp only[x2u]
  unfold xdk
  simp[hk,x4j,x2es]
 |cons e r ih=>
  intro k j m fc hd hj
  obtain⟨j,rfl⟩:∃i,j=i+1:=⟨j-1,by simp at hj;omega⟩
  obtain⟨hk,he,hd⟩:=x2ge hd
  have hk':(k:Int)<(l.length:Int):=by omega
  have ix:=h.ix Scene.len hk
  have ld:=x2eg (m:=m) Scene.len (by omega) hk
  rw[he]at ld
  obtain⟨a',hpre,hsl⟩:=x2rz h (k:=k) (by omega) (by rintro rfl;simp at hk)
  have next:∀m fc,∃m',x2u (x2cl (d+3)) [] u j a a (I l.length) (I ((k:Int)+1)) m fc=some (.tup [I (x2es l (k+1) r).1,I (x2es l (k+1) r).2],m'):=fun m fc=>ih (k+1) j m fc hd (by simp at hj;omega)
  simp only[x2u]
  unfold xdk
  simp only[x2db,hk',decide_true,x2d9,x2cs,ix,ld,x2l4,x2l6,x2es]
  simp[Scene.c,w_isName]
  cases hn:nmOK e.nm with
  |false=>simp
  |true=>
   simp[hsl]
   generalize hm1:Mem.set _ _ _=m1
   have hg:m1.get (u,fc+4,5)=some (.row e.c 0 false):=by rw[<-hm1];simp[Scene.c]
   obtain⟨mc,hcc⟩:=x2s2 d (y:=e) hpre (by rw[List.length_take];omega)
   have hfr:[a',AV.clo xv [.ptr (u,fc+4,5) 0 0]].mapM (Go.Ix.frz m1.get deep)=some [a',.clo xv [.plit e.c]]:=by
    have h1:Go.Ix.frz m1.get deep a'=some a':=x2fm _ 4 hpre.still
    have h3:e.c.mapM (Go.Ix.frz m1.get 4)=some e.c:=x2hi fun b hb=>x2jh _ 3 (by
     simp[Scene.c]at hb;rcases hb with rfl|rfl|rfl<;>rfl)
    have h4:Go.Ix.frz m1.get 5 (.ptr (u,fc+4,5) 0 0)=some (.plit e.c):=by
     simp only[Go.Ix.frz,hg,if_true,List.drop_zero,h3];rfl
    have h2:Go.Ix.frz m1.get deep (.clo xv [.ptr (u,fc+4,5) 0 0])=some (.clo xv [.plit e.c]):=by
     show([AV.ptr (u,fc+4,5) 0 0].mapM (Go.Ix.frz m1.get 5)).map (AV.clo xv)=_
     simp only[List.mapM_cons,List.mapM_nil,h4];rfl
    simp only[List.mapM_cons,List.mapM_nil,h1,h2];rfl
   obtain⟨m2,hs2,_,hrow⟩:=x2rx hfr hcc rfl
   obtain⟨b',hg2⟩:=hrow _ _ _ _ hg
   simp only[hs2,x2cs]
   cases hany:(l.take k).any fun x=>teq x.nm e.nm with
   |true=>simp
   |false=>
    simp[hg2,Scene.c,x2jl]
    cases hw:wi e.day 0 100000 with
    |false=>simp
    |true=>
     simp(disch:=omega) [hg2,Scene.c,x2pa]
     cases hw2:wi e.bl (-100000) 100000 with
     |false=>simp
     |true=>
      obtain⟨m',h'⟩:=next m2 (fc+31)
      simp
      exact⟨m',h'⟩
theorem x2s4(d:Nat){a:AV}{l:List Scene}(h:Sl Scene.c a l)(m:Mem):x2cm (x2cl (d+4)) x3f [a] m=some (.tup [I (x2el l).1,I (x2el l).2],m):=by
 obtain⟨m',h'⟩:∃m',x2cl (d+4) [] x3f [a] mem0=some (.tup [I (x2el l).1,I (x2el l).2],m'):=by
  rw[x1bb]
  unfold xgi xiw xdl x2el
  by_cases hl:60<l.length
  .simp[h.len x2dr,hl,show(60:Int)<l.length by omega]
  .obtain⟨m',h'⟩:=x2s3 d 0 h (by omega) l 0 NN ⟨[],1⟩ 8 rfl (by rw[x2cz];omega)
   simp[h.len x2dr,hl,show ¬((60:Int)<l.length) by omega,mem0]
   exact⟨m',h'⟩
 exact call0_tup (by simp[h.still]) h' rfl
theorem ld_nm{m:Mem}{l:List Scene}{k:Nat}(hk:k<l.length):sLd false 1 (.plit ((l.drop k).flatMap Scene.c)) m=some (T l[k].nm):=by
 rw[x2e2 hk,List.flatMap_cons]
 rfl
theorem x2s5(call:x2cj)(hs:FHs)(u:Nat){a:AV}{l:List Scene}(h:Sl Scene.c a l)(hl:l.length<=60){n:Nat}(hn:n<l.length){e:Scene}(id:Id)(rec0:AV->AV->Mem->Nat->O2)(m:Mem)(hg:m.get id=some (.row e.c 0 false)):∀(suf:List Scene) (k j:Nat) (fc:Nat),(l.take n).drop k=suf->suf.length<j ->
 ∃fc',x3z call hs u rec0 j a (I n) (.ptr id 0 0) (I k) m fc=(bif suf.any (fun y=>teq y.nm e.nm)then some (.tup [I n,I 5],m)else x2r call hs u rec0 a (I n) (.ptr id 0 0) m fc'):=by
 intro suf
 induction suf with
 |nil=>
  intro k j fc hd hj
  obtain⟨j,rfl⟩:∃i,j=i+1:=⟨j-1,by simp at hj;omega⟩
  have hk:¬((k:Int)<(n:Int)):=by have:=List.drop_eq_nil_iff.mp hd;rw[List.length_take]at this;omega
  simp only[x3z]
  unfold xcl
  simp[hk]
  exact⟨_,rfl⟩
 |cons x r ih=>
  intro k j fc hd hj
  obtain⟨j,rfl⟩:∃i,j=i+1:=⟨j-1,by simp at hj;omega⟩
  obtain⟨hk,he,hd⟩:=x2ge hd
  rw[List.length_take]at hk
  have hk':(k:Int)<(n:Int):=by omega
  have hk2:k<l.length:=by omega
  rw[List.getElem_take]at he
  have ix:=h.ix Scene.len hk2
  have ld:=ld_nm (m:=m) hk2
  rw[he]at ld
  simp only[x3z]
  unfold xcl
  simp only[x2db,hk',decide_true,x2d9,x2cs,ix,sFA_plit,List.drop_zero,ld,List.any_cons]
  simp[hg,Scene.c,t_eq]
  cases ht:teq x.nm e.nm with
  |true=>simp
  |false=>
   obtain⟨fc',h'⟩:=ih (k+1) j (fc+14) hd (by simp at hj;omega)
   simp(disch:=omega) [x2cq]
   exact⟨fc',by simpa using h'⟩
theorem x2s6(d:Nat)(u:Nat){a:AV}{l:List Scene}(h:Sl Scene.c a l)(hl:l.length<=60):∀(suf:List Scene) (k j:Nat) (m:Mem) (fc:Nat),l.drop k=suf->suf.length<j ->
 ∃m',x20 (x2cl (d+1)) [] u j a (I k) m fc=some (.tup [I (x2es l k suf).1,I (x2es l k suf).2],m'):=by
 intro suf
 induction suf with
 |nil=>
  intro k j m fc hd hj
  obtain⟨j,rfl⟩:∃i,j=i+1:=⟨j-1,by simp at hj;omega⟩
  have hk:¬((k:Int)<(l.length:Int)):=by have:=List.drop_eq_nil_iff.mp hd;omega
  simp only[x20]
  unfold xcn
  simp[h.len x2dr,hk,xm,x2es]
 |cons e r ih=>
  intro k j m fc hd hj
  obtain⟨j,rfl⟩:∃i,j=i+1:=⟨j-1,by simp at hj;omega⟩
  obtain⟨hk,he,hd⟩:=x2ge hd
  have hk':(k:Int)<(l.length:Int):=by omega
  have ix:=h.ix Scene.len hk
  have ld:=x2eg (m:=m) Scene.len (by omega) hk
  rw[he]at ld
  have next:∀m fc,∃m',x20 (x2cl (d+1)) [] u j a (I ((k:Int)+1)) m fc=some (.tup [I (x2es l (k+1) r).1,I (x2es l (k+1) r).2],m'):=fun m fc=>ih (k+1) j m fc hd (by simp at hj;omega)
  simp only[x20]
  unfold xcn x8l
  simp only[h.len x2dr,x2db,hk',decide_true,x2d9,x2cs,ix,ld,x2l4,x2l6,x2es]
  simp[Scene.c,w_IsName]
  cases hn:nmOK e.nm with
  |false=>simp
  |true=>
   simp
   generalize hm1:Mem.set _ _ _=m1
   have hg:m1.get (u,fc+4+4,5)=some (.row e.c 0 false):=by rw[<-hm1];simp[Scene.c]
   unfold xcm
   obtain⟨fc',hL⟩:=x2s5 (x2cl (d+1)) [] u h hl hk (u,fc+4+4,5) (x20 (x2cl (d+1)) [] u j) m1 hg (l.take k) 0 NN (fc+4+10+1) rfl (by rw[x2cz,List.length_take];omega)
   rw[show(I ((0:Nat):Int))=I 0 from rfl]at hL
   rw[hL]
   cases hany:(l.take k).any fun x=>teq x.nm e.nm with
   |true=>simp
   |false=>
    unfold x2r x13
    simp[hg,Scene.c,x2ib]
    cases hw:wi e.day 0 100000 with
    |false=>simp
    |true=>
     simp(disch:=omega) [hg,Scene.c,x2ib]
     cases hw2:wi e.bl (-100000) 100000 with
     |false=>simp
     |true=>
      simp
      exact next _ _
theorem x2s7(d:Nat){a:AV}{l:List Scene}(h:Sl Scene.c a l)(m:Mem):x2cm (x2cl (d+2)) x38 [a] m=some (.tup [I (x2el l).1,I (x2el l).2],m):=by
 obtain⟨m',h'⟩:∃m',x2cl (d+2) [] x38 [a] mem0=some (.tup [I (x2el l).1,I (x2el l).2],m'):=by
  rw[x1at]
  unfold xfw xhz xco x2el
  by_cases hl:60<l.length
  .simp[h.len x2dr,hl,show(60:Int)<l.length by omega]
  .obtain⟨m',h'⟩:=x2s6 d 0 h (by omega) l 0 NN ⟨[],1⟩ 6 rfl (by rw[x2cz];omega)
   simp[h.len x2dr,hl,show ¬((60:Int)<l.length) by omega,mem0]
   exact⟨m',h'⟩
 exact call0_tup (by simp[h.still]) h' rfl
end Go.Ix
set_option linter.unusedVariables false
namespace Go.Ix
open Go.Proofs
variable{P:Program}
theorem x2h2{α β:Type}(f:α->Sem β):∀s:Sem α,x2cr P (s >>= f)=(x2cr P s).bind fun a=>x2cr P (f a):=by
 intro s
 show x2cr P (Sem.bind s f)=_
 induction s with
 |pure a=>rfl
 |program k ih=>exact ih P
 |mark x k ih=>exact ih
 |_=>rfl
theorem x2l7{α:Type}(a:α):x2cr P (pure a:Sem α)=some a:=rfl
theorem x2ms:x2cr P program=some P:=rfl
theorem x2pd{t:TypeId}{d:TypeDesc}(h:P.underlying t=some d):x2cr P (underlying t)=some d:=by
 simp only[underlying,x2h2,x2ms,x2cs,h]
 rfl
theorem x2s8(d:Nat)(t:TypeId)(xs ys:Array Value)(ht:P.underlying t=some (.struct (P.fieldsOf t)))(hp:P.stoodInHeld t=false) :
 x2cr P (Op.equalIn (d+1) t (.agg xs) (.agg ys))=x2cr P (Op.eqFields d xs ys (P.fieldsOf t).toList):=by
 simp only[Op.equalIn,x2h2,x2pd ht,x2cs,x2ms,hp,Bool.false_eq_true,if_false]
 rw[<-Array.forIn_toList]
 generalize (P.fieldsOf t).toList=fs
 clear ht
 induction fs with
 |nil=>simp[Op.eqFields,x2l7]
 |cons f fs ih=>
  simp only[List.forIn_cons,Op.eqFields,x2h2]
  split
  .simp only[x2h2]
   generalize x2cr P (part f.type xs f.offset)=r1
   cases r1 with
   |none=>rfl
   |some a=>
    generalize hb:x2cr P (part f.type ys f.offset)=r2
    cases r2 with
    |none=>simp[hb]
    |some b=>
     simp only[hb,x2cs]
     generalize x2cr P (Op.equalIn d f.type a b)=r3
     cases r3 with
     |none=>rfl
     |some r=>
      cases r
      .rfl
      .exact ih
  .exact ih
theorem x2s9(d:Nat)(t:TypeId)(k k':IntKind)(a b:Int)(h:P.underlying t=some (.int k')):x2cr P (Op.equalIn (d+1) t (.int k a) (.int k b))=some (a == b):=by
 simp[Op.equalIn,x2h2,x2pd h,x2l7]
theorem x2sa(op:BinOp)(t:TypeId)(x y:Operand)(xs ys:Array Value)(hm:P.eqGuardType P.depth t=false):x2cr P (eqGuard op t x y (.agg xs) (.agg ys))=some ():=by
 cases op<;>simp[eqGuard,x2h2,x2ms,x2l7,hm]
theorem x2sb{t:TypeId}{x y:Operand}{xs ys:List Value}{r:Bool}(hm:P.eqGuardType P.depth t=false)(hr:x2cr P (Op.equalIn 10000 t (.agg xs.toArray) (.agg ys.toArray))=some r) :
 ∀kx ky,scs kx=some xs->scs ky=some ys->sBin P .eql t x y (.agg kx) (.agg ky)=some (B r):=by
 intro kx ky h1 h2
 simp only[sBin,x2d8,h1,h2,x2h2,x2sa _ _ _ _ _ _ hm,x2cs]
 have:x2cr P (binOp .eql t (.agg xs.toArray) (.agg ys.toArray))=some (.bool r):=by
  show x2cr P (do pure (Value.bool (<-Op.equal t (.agg xs.toArray) (.agg ys.toArray))))=_
  simp only[x2h2,Op.equal,Op.maxDepth,hr,x2cs,x2l7]
 rw[this];rfl
theorem und_int:Tryz.prog.underlying x2d3=some (.int .i64):=by kernel_rfl
theorem x2pe(d:Nat)(xs ys:Array Value)(ga gb:Nat->Int):∀fs:List Field,(∀f∈fs,f.name≠"_"/\f.type=x2d3/\x2cr Tryz.prog (part x2d3 xs f.offset)=some (.int .i64 (ga f.offset))/\x2cr Tryz.prog (part x2d3 ys f.offset)=some (.int .i64 (gb f.offset))) ->
 x2cr Tryz.prog (Op.eqFields (d+1) xs ys fs)=some (fs.all fun f=>ga f.offset == gb f.offset)
 |[],_=>rfl
 |f::fs,h=>by
  obtain⟨h1,h2,h3,h4⟩:=h f (List.mem_cons_self ..)
  have ih:=x2pe d xs ys ga gb fs fun g hg=>h g (List.mem_cons_of_mem _ hg)
  simp only[Op.eqFields,h1,ne_eq,not_false_eq_true,if_true,h2,x2h2,h3,h4,x2cs,x2s9 _ _ _ _ _ _ und_int,List.all_cons]
  cases ga f.offset == gb f.offset
  .rfl
  .exact ih
theorem eq_ints{t:TypeId}{offs:List Nat}{xs ys:Array Value}{ga gb:Nat->Int}(hS:Tryz.prog.underlying t=some (.struct (Tryz.prog.fieldsOf t)))(hs:Tryz.prog.stoodInHeld t=false)(hF:((Tryz.prog.fieldsOf t).toList.map fun f=>(f.type,f.offset,decide (f.name = "_")))=offs.map fun o=>(x2d3,o,false))(hp:∀o∈offs,x2cr Tryz.prog (part x2d3 xs o)=some (.int .i64 (ga o))/\x2cr Tryz.prog (part x2d3 ys o)=some (.int .i64 (gb o))) :
 x2cr Tryz.prog (Op.equalIn 10000 t (.agg xs) (.agg ys))=some (offs.all fun o=>ga o == gb o):=by
 rw[show(10000:Nat)=9998+1+1 from rfl,x2s8 _ _ _ _ hS hs]
 generalize (Tryz.prog.fieldsOf t).toList=fs at hF
 rw[x2pe 9998 xs ys ga gb fs]
 .have:(fs.map fun f=>f.offset)=offs:=by
   have:=congrArg (List.map fun x:TypeId×Nat×Bool=>x.2.1) hF
   simpa[List.map_map,Function.comp_def]using this
  rw[<-this,List.all_map]
  rfl
 .intro f hf
  have h1:(f.type,f.offset,decide (f.name = "_"))∈offs.map fun o=>(x2d3,o,false):=by
   rw[<-hF];exact List.mem_map_of_mem hf
  obtain⟨o,ho,e⟩:=List.mem_map.mp h1
  simp only[Prod.mk.injEq]at e
  obtain⟨e1,e2,e3⟩:=e
  subst e2
  exact⟨of_decide_eq_false e3.symm,e1.symm,hp _ ho⟩
structure Pq where
 a:Int
 b:Int
def Pq.c(p:Pq):List AV:=[I p.a,I p.b]
theorem Pq.len(p:Pq):p.c.length=2:=rfl
theorem Pq.still(p:Pq):p.c.all still1=true:=rfl
theorem x2e0:Tryz.prog.underlying x3=some (.slice xe):=by kernel_rfl
theorem x2fo:xf=[I 0,I 0]:=by kernel_rfl
def Pq.same(p q:Pq):Bool:=decide (p.a=q.a)&&decide (p.b=q.b)
theorem Pq.same_iff{a b:Pq}:a.same b=true↔a=b:=by
 cases a;cases b
 simp[Pq.same]
theorem Pq.same_self(a:Pq):a.same a=true:=Pq.same_iff.2 rfl
theorem part27(w0 w1:Int):∀o∈[0,1],x2cr Tryz.prog (part x2d3 #[.int .i64 w0,.int .i64 w1] o)=some (.int .i64 ([w0,w1].getD o 0)):=by
 intro o ho
 simp only[List.mem_cons,List.not_mem_nil,or_false]at ho
 rcases ho with rfl|rfl<;>kernel_rfl
theorem x2pf(p q:Pq):x2cr Tryz.prog (Op.equalIn 10000 xe (.agg [.int .i64 p.a,.int .i64 p.b].toArray) (.agg [.int .i64 q.a,.int .i64 q.b].toArray))=some (p.same q):=by
 refine(eq_ints (offs:=[0,1]) (ga:=fun o=>[p.a,p.b].getD o 0) (gb:=fun o=>[q.a,q.b].getD o 0) (by kernel_rfl) (by kernel_rfl) (by kernel_rfl) fun o ho=>⟨part27 _ _ o ho,part27 _ _ o ho⟩).trans ?_
 simp[Pq.same,List.getD]
 by_cases h0:p.a=q.a<;>by_cases h1:p.b=q.b<;>simp[h0,h1]
theorem eq_pair7(x y:Operand)(p q:Pq):sBin Tryz.prog .eql xe x y (.agg p.c) (.agg q.c)=some (B (p.same q)):=
 x2sb (xs:=[.int .i64 p.a,.int .i64 p.b]) (ys:=[.int .i64 q.a,.int .i64 q.b]) (by kernel_rfl) (x2pf p q) _ _ rfl rfl
def InB(l:List Scene):Prop:=∀s∈l,(0<=s.day/\s.day<=100000)/\(-100000<=s.bl/\s.bl<=100000)
theorem x2pg{l:List Scene}:∀(suf:List Scene) (k:Nat),(x2es l k suf).2=0->InB suf
 |[],_,_=>fun s h=>by cases h
 |x::r,k,h=>by
  simp only[x2es]at h
  cases hn:nmOK x.nm with
  |false=>simp[hn]at h
  |true=>
   cases ha:(l.take k).any fun y=>teq y.nm x.nm with
   |true=>simp[hn,ha]at h
   |false=>
    cases hw:wi x.day 0 100000 with
    |false=>simp[hn,ha,hw]at h
    |true=>
     cases hw2:wi x.bl (-100000) 100000 with
     |false=>simp[hn,ha,hw,hw2]at h
     |true=>
      simp[hn,ha,hw,hw2]at h
      have ih:=x2pg r (k+1) h
      intro s hs
      rcases List.mem_cons.mp hs with rfl|hs
      .exact⟨wi_t hw,wi_t hw2⟩
      .exact ih s hs
theorem x2mt{l:List Scene}(h:(x2el l).2=0):l.length<=60/\InB l:=by
 unfold x2el at h
 by_cases hl:60<l.length
 .simp[hl]at h
 .simp[hl]at h
  exact⟨by omega,x2pg l 0 h⟩
end Go.Ix
