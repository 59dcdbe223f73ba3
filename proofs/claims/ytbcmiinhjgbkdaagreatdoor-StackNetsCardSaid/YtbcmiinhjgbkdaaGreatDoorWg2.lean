import Derived.Test.YtbcmiinhjgbkdaaGreatDoorWg1
import Derived.Laws.Strings
import Derived.Test.YtbcmiinhjgbkdaaGreatDoorFxSound
set_option linter.unusedSimpArgs false
namespace Go.Ix
open Go.Proofs
abbrev Ints(a:AV)(l:List Int):Prop:=Sl intE a l
def exI(t:List Int)(e:Edge):Int:=at0 t e.to.toNat-at0 t e.fr.toNat+e.jump
def TurnsIn(t:List Int):Prop:=∀x∈t,-1000000<=x/\x<=1000000
theorem TurnsIn.get{t:List Int}(h:TurnsIn t)(k:Nat):-1000000<=at0 t k/\at0 t k<=1000000:=by
 unfold at0
 rw[x1mu]
 cases hk:t[k]? with
 |none=>simp
 |some x=>simpa using h x (x1n1 hk)
structure EdgeIn (n:Nat) (e:Edge):Prop where
 f0:0<=e.fr
 f1:e.fr<n
 t0:0<=e.to
 t1:e.to<n
 j0:-1000<=e.jump
 j1:e.jump<=1000
 w0:0<=e.wt
 w1:e.wt<=1000
theorem loopW{σ R:Type}{N:Nat}(X:Nat->Nat->σ->Mem->Nat->R)(Inv:Nat->σ->Mem->Prop)(Q:R->Prop)(hstep:∀n k s m fc,k<N->Inv k s m->(∀s' m' fc',Inv (k+1) s' m'->Q (X n (k+1) s' m' fc'))->Q (X (n+1) k s m fc))(hend:∀n s m fc,Inv N s m->Q (X (n+1) N s m fc)):∀n k s m fc,k<=N->N<n+k->Inv k s m->Q (X n k s m fc):=by
 intro n
 induction n with
 |zero=>intro k s m fc h1 h2;omega
 |succ n ih=>
  intro k s m fc h1 h2 hI
  rcases x1mv k N with h|h
  .exact hstep n k s m fc h hI λs' m' fc' hI'=>ih (k+1) s' m' fc' h (by omega) hI'
  .have:k=N:=by omega
   subst this
   exact hend n s m fc hI
def RetF(T:AV->Prop)(r:O2):Prop:=∃a m' a',r=some (a,m')/\frz m'.get deep a=some a'/\T a'
theorem RetF.st{T:AV->Prop}{a:AV}{m:Mem}(h:still a=true)(ht:T a):RetF T (some (a,m)):=⟨a,m,a,rfl,x150 _ 4 h,ht⟩
theorem RetF.tup{T:AV->Prop}{l:List AV}{m:Mem}(h:l.all still=true)(ht:T (.tup l)):RetF T (some (.tup l,m)):=⟨_,m,_,rfl,frz_tup h,ht⟩
theorem RetF.mk{T:AV->Prop}{a a':AV}{m:Mem}(h:frz m.get deep a=some a')(ht:T a'):RetF T (some (a,m)):=⟨a,m,a',rfl,h,ht⟩
theorem callF{T:AV->Prop}{call:x10m}{f:FuncId}{l:List AV}(hl:l.all still=true)(h:RetF T (call [] f l mem0))(m:Mem):∃a,T a/\x10o call f l m=some (a,m):=by
 obtain⟨a,m',a',h1,h2,h3⟩:=h
 exact⟨a',h3,x190 hl h1 h2⟩
theorem x16a{v:AV}{call:x10m}{f:FuncId}{l:List AV}(hl:l.all still=true)(h:RetF (λa=>a=v) (call [] f l mem0))(m:Mem):x10o call f l m=some (v,m):=by
 obtain⟨a,h1,h2⟩:=callF hl h m
 rw[h2,h1]
theorem Gr.len{α:Type}{z:Nat}{enc:α->List AV}{l:List α}{a:AV}{u t:Nat}{m:Mem}{y e:TypeId}(ht:Tryz.prog.underlying y=some (.slice e))(h:Gr z enc u t m a l):sLen Tryz.prog y a=some (I l.length):=by
 rcases h with ⟨rfl,rfl⟩|⟨s,ver,rfl,hg⟩
 .exact x17t ht
 .rfl
theorem ld_fld{α:Type}{enc:α->List AV}{m:Mem}{l:List α}{k:Nat}(hk:k<l.length)(j:Nat){v:AV}(hv:((enc l[k]).drop j).head?=some v):sLd false 1 (.plit (((l.drop k).flatMap enc).drop j)) m=some v:=by
 rw[x151 hk,x1mj]
 have hj:j<(enc l[k]).length:=by
  rcases x1mv j (enc l[k]).length with h|h
  .exact h
  .rw[x1nt h]at hv;cases hv
 rw[List.drop_append_of_le_length (by omega)]
 cases hd:(enc l[k]).drop j with
 |nil=>rw[hd]at hv;cases hv
 |cons x r=>
  rw[hd]at hv
  simp at hv
  subst hv
  rfl
theorem x193(d:Nat)(a b c:Int)(m:Mem):x10o (x10p (d+1)) xm [I a,I b,I c] m=some (B (wi a b c),m):=by
 refine call0 rfl (m':=⟨[],1⟩) ?_ rfl
 rw[xud]
 unfold x95 x73 wi
 by_cases h:b<=a<;>by_cases h2:a<=c<;>simp[h,h2,mem0]
theorem w_small7(d:Nat)(a b:Int)(m:Mem)(h:-9223372036854775807<=b/\b<=9223372036854775807):x10o (x10p (d+2)) x16 [I a,I b] m=some (B (wi a (-b) b),m):=by
 refine call0 rfl (m':=⟨[],1⟩) ?_ rfl
 rw[xut]
 unfold x9k x7u
 simp(disch:=omega) [mem0,x193,x11k]
abbrev T(s:ByteArray):AV:=.sc (.string s)
abbrev U8(c:Int):AV:=.sc (.int .u8 c)
def u8E(b:UInt8):List AV:=[U8 b.toNat]
theorem u8E_len(b:UInt8):(u8E b).length=1:=rfl
theorem u8_ge(x y:Operand)(a b:Int):sBin Tryz.prog .geq x1 x y (U8 a) (U8 b)=some (B (decide (b<=a))):=by kernel_rfl
theorem u8_le(x y:Operand)(a b:Int):sBin Tryz.prog .leq x1 x y (U8 a) (U8 b)=some (B (decide (a<=b))):=by kernel_rfl
theorem u8_gt(x y:Operand)(a b:Int):sBin Tryz.prog .gtr x1 x y (U8 a) (U8 b)=some (B (decide (b<a))):=by kernel_rfl
theorem u8_lt(x y:Operand)(a b:Int):sBin Tryz.prog .lss x1 x y (U8 a) (U8 b)=some (B (decide (a<b))):=by kernel_rfl
theorem x16v(x y:Operand)(a b:Int):sBin Tryz.prog .eql x1 x y (U8 a) (U8 b)=some (B (decide (a=b))):=by kernel_rfl
theorem u8_ne(x y:Operand)(a b:Int):sBin Tryz.prog .neq x1 x y (U8 a) (U8 b)=some (B (!decide (a=b))):=by kernel_rfl
def teq(a b:ByteArray):Bool:=a.toList == b.toList
theorem t_eq(x y:Operand)(a b:ByteArray):sBin Tryz.prog .eql x0 x y (T a) (T b)=some (B (teq a b)):=by kernel_rfl
@[simp] theorem sLenS_T(s:ByteArray):x114 (T s)=some (I s.size):=rfl
theorem u_bytes:Tryz.prog.underlying xe=some (.slice x1):=by kernel_rfl
theorem u_u8:Tryz.prog.underlying x1=some (.int .u8):=by kernel_rfl
theorem u_str:Tryz.prog.underlying x0=some .string:=by kernel_rfl
theorem cvt_bytes(s:ByteArray):sCvt Tryz.prog x0 xe (T s)=some (.slit (s.data.toList.flatMap u8E) s.data.toList.length false):=by
 have e:(s.data.toList.map λb=>U8 b.toNat)=s.data.toList.flatMap u8E:=by
  induction s.data.toList with
  |nil=>rfl
  |cons b l ih=>rw[x1mm,x1mj,ih];rfl
 refine sCvt_0 ?_
 simp only[cvt0,x118,x184,u_bytes,u_u8,u_str]
 rw[e,x135 (z:=1) u8E_len s.data.toList,x1o4]
theorem idx_T{s:ByteArray}{k:Nat}(h:k<s.data.toList.length):sIdx Tryz.prog x0 (T s) (I k)=some (U8 (s.data.toList[k]).toNat):=by
 have:x10w Tryz.prog (Instr.index x0 (.string s) (.int .i64 k))=some (.int .u8 (s.data.toList[k]).toNat):=by
  have h2:s[k]?=some s.data.toList[k]:=by
   have h3:k<s.size:=by simpa using h
   rw[getElem?_pos s k h3]
   rfl
  simp only[Instr.index,asIntOf,asInt,underlying,program,Bind.bind,Sem.bind,x10w,Pure.pure,u_str]
  rw[x1m1 (by omega),x1ox,h2]
  rfl
 have e:sIdx Tryz.prog x0 (T s) (I k)=(x10w Tryz.prog (Instr.index x0 (.string s) (.int .i64 k))).map x11l:=by
  simp only[sIdx,I,x118]
 rw[e,this]
 rfl
def chOK(p:Bool)(c:Int):Bool:=(decide (97<=c)&&decide (c<=122))||(decide (65<=c)&&decide (c<=90))||(p&&(decide (c=45)||(decide (48<=c)&&decide (c<=57))))
def x13o:Nat->List UInt8->Bool
 |_,[]=>true
 |k,c::r=>chOK (decide (0<k)) c.toNat&&x13o (k+1) r
def nmOK(s:ByteArray):Bool:=decide (0<s.size)&&decide (s.size<=12)&&x13o 0 s.data.toList
theorem ld_u8{m:Mem}{l:List UInt8}{k:Nat}(hk:k<l.length):sLd false 1 (.plit ((l.drop k).flatMap u8E)) m=some (U8 l[k].toNat):=by
 rw[x151 hk,x1mj]
 rfl
theorem l_isName(call:x10m)(hs:FHs)(u:Nat){a:AV}{l:List UInt8}(h:Sl u8E a l)(hl:l.length<=12):∀(suf:List UInt8) (k j:Nat) (m:Mem) (fc:Nat),l.drop k=suf->suf.length<j ->
 x1v call hs u j a (I l.length) (I k) m fc=some (B (x13o k suf),m):=by
 intro suf
 induction suf with
 |nil=>
  intro k j m fc hd hj
  obtain⟨j,rfl⟩:∃i,j=i+1:=⟨j-1,by simp at hj;omega⟩
  have hk:¬((k:Int)<(l.length:Int)):=by have:=x1na.mp hd;omega
  simp only[x1v]
  unfold x7q xc4
  simp[hk,x13o]
 |cons e r ih=>
  intro k j m fc hd hj
  obtain⟨j,rfl⟩:∃i,j=i+1:=⟨j-1,by simp at hj;omega⟩
  obtain⟨hk,he,hd⟩:=x13a hd
  have hk':(k:Int)<(l.length:Int):=by omega
  have ix:=h.ix u8E_len hk
  have ld:=ld_u8 (m:=m) hk
  have next:∀fc,x1v call hs u j a (I l.length) (I (w64 ((k:Int)+1))) m fc=some (B (x13o (k+1) r),m):=λfc=>by
   rw[x11k (by omega) (by omega)]
   exact ih (k+1) j m fc hd (by simp at hj;omega)
  rw[he]at ld
  have hk0:decide ((0:Int)<(k:Int))=decide (0<k):=by simp
  simp only[x1v]
  unfold x7q xc6 xc5 x7p x7o
  simp only[x11t,hk',x1m6,x112,x10r,ix,ld,u8_ge,u8_le,x16v,sW_t,sW_f]
  simp only[x13o,chOK]
  generalize (e.toNat:Int)=c
  by_cases a1:97<=c<;>by_cases a2:c<=122<;>by_cases b1:65<=c<;>by_cases b2:c<=90<;>by_cases d1:48<=c<;>by_cases d2:c<=57<;>by_cases d0:c=45 <;>
   first
   |(exfalso;omega)
   |(by_cases hp:0<k<;>simp[a1,a2,b1,b2,d1,d2,d0,hp,u8_ge,u8_le,x16v,next])
theorem w_isName(d:Nat)(s:ByteArray)(m:Mem):x10o (x10p (d+1)) x26 [T s] m=some (B (nmOK s),m):=by
 refine call0 rfl (m':=⟨[],1⟩) ?_ rfl
 rw[xuq]
 have e0:teq s ⟨#[]⟩=decide (s.size=0):=by
  unfold teq
  rw[ByteArray.toList_eq,ByteArray.toList_eq]
  cases hs:s.data.toList with
  |nil=>
   have:s.size=0:=by show s.data.size=0;rw[<-x1nn,hs];rfl
   simp[this]
  |cons x r=>
   have:s.size=r.length+1:=by show s.data.size=_;rw[<-x1nn,hs];rfl
   simp[this]
 have hsz:s.data.toList.length=s.size:=rfl
 unfold x9h x7r nmOK
 simp only[t_eq,e0,x10r]
 by_cases h0:s.size=0
 .simp[h0,mem0]
 .by_cases h12:s.size<=12
  .have hL:=l_isName (x10p d) [] 0 (Sl.lit (enc:=u8E) s.data.toList false) (by omega) s.data.toList 0 NN ⟨[],1⟩ (fc:=12) rfl (by rw[x12a];omega)
   have hlen:sLen Tryz.prog xe (.slit (s.data.toList.flatMap u8E) s.data.toList.length false)=some (I s.data.toList.length):=(Sl.lit (enc:=u8E) s.data.toList false).len u_bytes
   unfold xc7
   simp only[cvt_bytes,hlen]
   simp[h0,h12,show ¬((12:Int)<s.size) by omega,show 0<s.size by omega,mem0]
   exact hL
  .simp[h0,h12,show(12:Int)<s.size by omega,mem0]
theorem l_IsName(call:x10m)(hs:FHs)(u:Nat){s:ByteArray}(hl:s.size<=12):∀(suf:List UInt8) (k j:Nat) (m:Mem) (fc:Nat),s.data.toList.drop k=suf->suf.length<j ->
 x1w call hs u j (T s) (I k) m fc=some (B (x13o k suf),m):=by
 have hsz:s.data.toList.length=s.size:=rfl
 intro suf
 induction suf with
 |nil=>
  intro k j m fc hd hj
  obtain⟨j,rfl⟩:∃i,j=i+1:=⟨j-1,by simp at hj;omega⟩
  have hk:¬((k:Int)<(s.size:Int)):=by have:=x1na.mp hd;omega
  simp only[x1w]
  unfold x7v xca
  simp[hk,x13o]
 |cons e r ih=>
  intro k j m fc hd hj
  obtain⟨j,rfl⟩:∃i,j=i+1:=⟨j-1,by simp at hj;omega⟩
  obtain⟨hk,he,hd⟩:=x13a hd
  have hk':(k:Int)<(s.size:Int):=by omega
  have ix:=idx_T hk
  have next:∀fc,x1w call hs u j (T s) (I (w64 ((k:Int)+1))) m fc=some (B (x13o (k+1) r),m):=λfc=>by
   rw[x11k (by omega) (by omega)]
   exact ih (k+1) j m fc hd (by simp at hj;omega)
  rw[he]at ix
  simp only[x1w]
  unfold x7v
  simp only[sLenS_T,x10r,x11t,hk',x1m6,x112,ix,u8_ge]
  simp only[x13o,chOK]
  generalize (e.toNat:Int)=c
  by_cases a1:97<=c<;>by_cases a2:c<=122<;>by_cases b1:65<=c<;>by_cases b2:c<=90<;>by_cases d1:c<48<;>by_cases d2:57<c<;>by_cases d0:c=45 <;>
   first
   |(exfalso;omega)
   |(have d1':(48<=c)=¬(c<48):=by rw[Int.not_lt]
     have d2':(c<=57)=¬(57<c):=by rw[Int.not_lt]
     by_cases hp:k=0<;>simp[a1,a2,b1,b2,d1,d2,d1',d2',d0,hp,Nat.pos_iff_ne_zero,u8_ge,u8_le,x16v,u8_ne,u8_lt,u8_gt,next]<;>(subst hp;have:=next (fc+44);simpa using this))
theorem w_IsName(d:Nat)(s:ByteArray)(m:Mem):x10o (x10p (d+1)) x28 [T s] m=some (B (nmOK s),m):=by
 refine call0 rfl (m':=⟨[],1⟩) ?_ rfl
 rw[xuu]
 have hsz:s.data.toList.length=s.size:=rfl
 unfold x9n x7w nmOK
 by_cases h0:s.size=0
 .simp[h0,mem0]
 .by_cases h12:s.size<=12
  .have hL:=l_IsName (x10p d) [] 0 (s:=s) h12 s.data.toList 0 NN ⟨[],1⟩ (fc:=10) rfl (by rw[x12a];omega)
   unfold xcb
   simp[h0,h12,show ¬((12:Int)<s.size) by omega,show ¬((s.size:Int)<1) by omega,show 0<s.size by omega,mem0]
   exact hL
  .simp[h0,h12,show(12:Int)<s.size by omega,show ¬((s.size:Int)<1) by omega,mem0]
theorem x1gl{i j:Id}{cs:List AV}{v:Nat}:∀{h:Hp} {b:Bool},hget h i=some (.row cs v b)->∃b',hget (shut1 h j) i=some (.row cs v b'):=by
 intro h b hi
 have:=congrFun (x17f [j] h) i
 rw[show x12o [j] h=shut1 h j from rfl]at this
 rw[this]
 unfold shut
 split
 .rw[hi];exact⟨_,rfl⟩
 .exact⟨b,hi⟩
theorem x1e0{i:Id}{cs:List AV}{v:Nat}:∀(ids:List Id) {h:Hp} {b:Bool},hget h i=some (.row cs v b)->∃b',hget (x12o ids h) i=some (.row cs v b')
 |[],h,b,hi=>⟨b,hi⟩
 |j::r,h,b,hi=>by
  obtain⟨b',h'⟩:=x1gl (j:=j) hi
  exact x1e0 r h'
theorem x1gm{call:x10m}{f:FuncId}{l l':List AV}{m m':Mem}{r r':AV}(hl:l.mapM (Go.Ix.frz m.get deep)=some l')(h:call [] f l' mem0=some (r,m'))(hr:Go.Ix.frz m'.get deep r=some r') :
 ∃m2:Mem,x10o call f l m=some (r',m2)/\m2.next=m.next/\∀i cs v b,m.get i=some (.row cs v b)->∃b',m2.get i=some (.row cs v b'):=by
 refine⟨⟨x12o (l.flatMap (reach m.get deep)) m.hp,m.next⟩,?_,rfl,λi cs v b hi=>x1e0 _ hi⟩
 unfold x10o
 rw[hl]
 simp only[h,hr]
 rfl
structure Scene where
 nm:ByteArray
 day:Int
 bl:Int
def Scene.c(s:Scene):List AV:=[T s.nm,I s.day,I s.bl]
theorem Scene.len(s:Scene):s.c.length=3:=rfl
theorem x12b:Tryz.prog.underlying x7=some (.slice xk):=by kernel_rfl
theorem x1gn:∃i,Tryz.prog.info? xk=some i/\i.size=3:=by
 have:(Tryz.prog.info? xk).map (·.size)=some 3:=by kernel_rfl
 rw[x1m4]at this
 exact this
theorem x152:x9=[T ⟨#[]⟩,I 0,I 0]:=by kernel_rfl
@[simp] theorem cells_T(s:ByteArray):(T s).cells=[T s]:=rfl
@[simp] theorem one_T(s:ByteArray):(T s).one=true:=rfl
theorem x1go{a:AV}{l:List Scene}(h:Sl Scene.c a l){k:Nat}(hk:k<=l.length)(h0:l≠[]):∃a',Sl Scene.c a' (l.take k)/\x117 Tryz.prog x7 a none (some (I k))=some a':=by
 rcases h with ⟨_,rfl⟩|⟨x,rfl⟩
 .exact absurd rfl h0
 obtain⟨i,hi,hs⟩:=x1gn
 have hl:=x135 Scene.len l
 refine⟨.slit ((l.take k).flatMap Scene.c) (l.take k).length (x&&decide ((k:Int)=(l.length:Int))),Sl.lit _ _,?_⟩
 have e1:x118 (.slit (l.flatMap Scene.c) l.length x)=none:=_root_.id rfl
 have e2:asI (I (k:Int))=some (k:Int):=rfl
 have e3:asI (I 0)=some 0:=rfl
 unfold x117
 simp only[e1,x12b,hi,Option.getD_some,Option.getD_none,e2,e3,hs,Int.sub_zero,x1ox,Int.toNat_zero,x1oc,x1mi]
 rw[x1m1 ⟨by omega,by omega,by omega,by omega⟩,x1ni,Nat.min_eq_left hk]
 have ht:∀(l:List Scene) (k:Nat),(l.flatMap Scene.c).take (k*3)=(l.take k).flatMap Scene.c:=by
  intro l
  induction l with
  |nil=>intro k;simp
  |cons x r ih=>
   intro k
   cases k with
   |zero=>simp
   |succ k=>
    rw[x1mj,x1pb,x1mj,x1nr,show k*3+3=x.c.length+k*3 by rw[Scene.len];omega,List.take_length_add_append,ih]
 rw[ht]
def x15n(nm:ByteArray):Int->List Scene->Int
 |_,[]=>-1
 |k,x::r=>bif teq x.nm nm then k else x15n nm (k+1) r
theorem x1e1(nm:ByteArray):∀(l:List Scene) (k:Int),0<=k->decide (0<=x15n nm k l)=l.any λy=>teq y.nm nm
 |[],k,_=>by simp[x15n]
 |x::r,k,hk=>by
  rw[x15n,List.any_cons]
  cases teq x.nm nm with
  |true=>simp[hk]
  |false=>simpa using x1e1 nm r (k+1) (by omega)
theorem x1gp(d:Nat)(hs:FHs)(x y:Scene)(m:Mem):∃m',x10p (d+1) hs xi [.agg x.c,.plit y.c] m=some (B (teq x.nm y.nm),m'):=by
 rw[xus]
 unfold x9j x7t
 simp[Scene.c,t_eq]
theorem x1gq(d:Nat)(hs:FHs){a:AV}{l:List Scene}{y:Scene}(h:Sl Scene.c a l)(hl:l.length<1000000)(u:Nat):∀(suf:List Scene) (k j:Nat) (m:Mem) (fc:Nat),l.drop k=suf->suf.length<j ->
 ∃m',x37 (x10p (d+1)) hs u j a (.clo xi [.plit y.c]) (I l.length) (I k) m fc=some (I (x15n y.nm k suf),m'):=by
 intro suf
 induction suf with
 |nil=>
  intro k j m fc hd hj
  obtain⟨j,rfl⟩:∃i,j=i+1:=⟨j-1,by simp at hj;omega⟩
  have hk:¬((k:Int)<(l.length:Int)):=by have:=x1na.mp hd;omega
  simp only[x37]
  unfold x88
  simp[hk,xda,x15n]
 |cons e r ih=>
  intro k j m fc hd hj
  obtain⟨j,rfl⟩:∃i,j=i+1:=⟨j-1,by simp at hj;omega⟩
  obtain⟨hk,he,hd⟩:=x13a hd
  have hk':(k:Int)<(l.length:Int):=by omega
  have ix:=h.ix Scene.len hk
  have ld:=x15l (m:=m) Scene.len (by omega) hk
  rw[he]at ld
  obtain⟨m1,hc⟩:=x1gp d hs e y m
  have hinv:x128 (x10p (d+1)) hs 2 (.clo xi [.plit y.c]) [.agg e.c] m=some (B (teq e.nm y.nm),m1):=hc
  simp only[x37]
  unfold x88
  simp only[x11t,hk',x1m6,x112,x10r,ix,ld,hinv,x15n]
  cases ht:teq e.nm y.nm with
  |true=>simp
  |false=>
   obtain⟨m',h'⟩:=ih (k+1) j m1 (fc+11) hd (by simp at hj;omega)
   simp(disch:=omega) [x11k]
   exact⟨m',by simpa using h'⟩
theorem x1gr(d:Nat){a:AV}{l:List Scene}{y:Scene}(h:Sl Scene.c a l)(hl:l.length<1000000) :
 ∃m',x10p (d+3) [] x27 [a,.clo xi [.plit y.c]] mem0=some (B (l.any λx=>teq x.nm y.nm),m'):=by
 obtain⟨m',h'⟩:=x1gq d [] (y:=y) h hl 0 l 0 NN ⟨[],1⟩ 4 rfl (by rw[x12a];omega)
 have hi:x10p (d+2) [] x2f [a,.clo xi [.plit y.c]] mem0=some (I (x15n y.nm 0 l),m'):=by
  rw[xv2]
  unfold x9v x89 xdb
  simp[h.len x12b,mem0]
  exact h'
 have hc:=λm:Mem=>call0 (m:=m) (call:=x10p (d+2)) (l:=[a,.clo xi [.plit y.c]]) (by simp only[x1n4,x1oz,h.still,x1n6,x1ny];rfl) hi rfl
 rw[xur]
 unfold x9i x7s
 simp[hc,mem0,<-x1e1 y.nm l 0 (by omega)]
def x12t(l:List Scene):Nat->List Scene->Int×Int
 |_,[]=>(0,0)
 |k,x::r=>
  bif !(nmOK x.nm)then((k:Int),4)
  else bif(l.take k).any (λy=>teq y.nm x.nm)then((k:Int),5)
  else bif !(wi x.day 0 100000)||!(wi x.bl (-100000) 100000)then((k:Int),2)
  else x12t l (k+1) r
def x12u(l:List Scene):Int×Int:=bif decide (60<l.length)then(0,8)else x12t l 0 l
theorem x1gs(d:Nat)(u:Nat){a:AV}{l:List Scene}(h:Sl Scene.c a l)(hl:l.length<=60):∀(suf:List Scene) (k j:Nat) (m:Mem) (fc:Nat),l.drop k=suf->suf.length<j ->
 ∃m',x1t (x10p (d+3)) [] u j a a (I l.length) (I k) m fc=some (.tup [I (x12t l k suf).1,I (x12t l k suf).2],m'):=by
 intro suf
 induction suf with
 |nil=>
  intro k j m fc hd hj
  obtain⟨j,rfl⟩:∃i,j=i+1:=⟨j-1,by simp at hj;omega⟩
  have hk:¬((k:Int)<(l.length:Int)):=by have:=x1na.mp hd;omega
  simp only[x1t]
  unfold x71
  simp[hk,xb6,x12t]
 |cons e r ih=>
  intro k j m fc hd hj
  obtain⟨j,rfl⟩:∃i,j=i+1:=⟨j-1,by simp at hj;omega⟩
  obtain⟨hk,he,hd⟩:=x13a hd
  have hk':(k:Int)<(l.length:Int):=by omega
  have ix:=h.ix Scene.len hk
  have ld:=x15l (m:=m) Scene.len (by omega) hk
  rw[he]at ld
  obtain⟨a',hpre,hsl⟩:=x1go h (k:=k) (by omega) (by rintro rfl;simp at hk)
  have next:∀m fc,∃m',x1t (x10p (d+3)) [] u j a a (I l.length) (I ((k:Int)+1)) m fc=some (.tup [I (x12t l (k+1) r).1,I (x12t l (k+1) r).2],m'):=λm fc=>ih (k+1) j m fc hd (by simp at hj;omega)
  simp only[x1t]
  unfold x71
  simp only[x11t,hk',x1m6,x112,x10r,ix,ld,x14h,x152,x12t]
  simp[Scene.c,w_isName]
  cases hn:nmOK e.nm with
  |false=>simp
  |true=>
   simp[hsl]
   generalize hm1:Mem.set _ _ _=m1
   have hg:m1.get (u,fc+4,5)=some (.row e.c 0 false):=by rw[<-hm1];simp[Scene.c]
   obtain⟨mc,hcc⟩:=x1gr d (y:=e) hpre (by rw[x1ni];omega)
   have hfr:[a',AV.clo xi [.ptr (u,fc+4,5) 0 0]].mapM (Go.Ix.frz m1.get deep)=some [a',.clo xi [.plit e.c]]:=by
    have h1:Go.Ix.frz m1.get deep a'=some a':=x150 _ 4 hpre.still
    have h3:e.c.mapM (Go.Ix.frz m1.get 4)=some e.c:=x15k λb hb=>x16t _ 3 (by
     simp[Scene.c]at hb;rcases hb with rfl|rfl|rfl<;>rfl)
    have h4:Go.Ix.frz m1.get 5 (.ptr (u,fc+4,5) 0 0)=some (.plit e.c):=by
     simp only[Go.Ix.frz,hg,x1mo,x1mi,h3];rfl
    have h2:Go.Ix.frz m1.get deep (.clo xi [.ptr (u,fc+4,5) 0 0])=some (.clo xi [.plit e.c]):=by
     show([AV.ptr (u,fc+4,5) 0 0].mapM (Go.Ix.frz m1.get 5)).map (AV.clo xi)=_
     simp only[x1n9,x1of,h4];rfl
    simp only[x1n9,x1of,h1,h2];rfl
   obtain⟨m2,hs2,_,hrow⟩:=x1gm hfr hcc rfl
   obtain⟨b',hg2⟩:=hrow _ _ _ _ hg
   simp only[hs2,x10r]
   cases hany:(l.take k).any λx=>teq x.nm e.nm with
   |true=>simp
   |false=>
    simp[hg2,Scene.c,x193]
    cases hw:wi e.day 0 100000 with
    |false=>simp
    |true=>
     simp(disch:=omega) [hg2,Scene.c,w_small7]
     cases hw2:wi e.bl (-100000) 100000 with
     |false=>simp
     |true=>
      obtain⟨m',h'⟩:=next m2 (fc+31)
      simp
      exact⟨m',h'⟩
theorem x1gt(d:Nat){a:AV}{l:List Scene}(h:Sl Scene.c a l)(m:Mem):x10o (x10p (d+4)) x1k [a] m=some (.tup [I (x12u l).1,I (x12u l).2],m):=by
 obtain⟨m',h'⟩:∃m',x10p (d+4) [] x1k [a] mem0=some (.tup [I (x12u l).1,I (x12u l).2],m'):=by
  rw[xuc]
  unfold x94 x72 xb7 x12u
  by_cases hl:60<l.length
  .simp[h.len x12b,hl,show(60:Int)<l.length by omega]
  .obtain⟨m',h'⟩:=x1gs d 0 h (by omega) l 0 NN ⟨[],1⟩ 8 rfl (by rw[x12a];omega)
   simp[h.len x12b,hl,show ¬((60:Int)<l.length) by omega,mem0]
   exact⟨m',h'⟩
 exact call0_tup (by simp[h.still]) h' rfl
theorem ld_nm{m:Mem}{l:List Scene}{k:Nat}(hk:k<l.length):sLd false 1 (.plit ((l.drop k).flatMap Scene.c)) m=some (T l[k].nm):=by
 rw[x151 hk,x1mj]
 rfl
theorem x1gu(call:x10m)(hs:FHs)(u:Nat){a:AV}{l:List Scene}(h:Sl Scene.c a l)(hl:l.length<=60){n:Nat}(hn:n<l.length){e:Scene}(id:Id)(rec0:AV->AV->Mem->Nat->O2)(m:Mem)(hg:m.get id=some (.row e.c 0 false)):∀(suf:List Scene) (k j:Nat) (fc:Nat),(l.take n).drop k=suf->suf.length<j ->
 ∃fc',x2z call hs u rec0 j a (I n) (.ptr id 0 0) (I k) m fc=(bif suf.any (λy=>teq y.nm e.nm)then some (.tup [I n,I 5],m)else x77 call hs u rec0 a (I n) (.ptr id 0 0) m fc'):=by
 intro suf
 induction suf with
 |nil=>
  intro k j fc hd hj
  obtain⟨j,rfl⟩:∃i,j=i+1:=⟨j-1,by simp at hj;omega⟩
  have hk:¬((k:Int)<(n:Int)):=by have:=x1na.mp hd;rw[x1ni]at this;omega
  simp only[x2z]
  unfold x78
  simp[hk]
  exact⟨_,rfl⟩
 |cons x r ih=>
  intro k j fc hd hj
  obtain⟨j,rfl⟩:∃i,j=i+1:=⟨j-1,by simp at hj;omega⟩
  obtain⟨hk,he,hd⟩:=x13a hd
  rw[x1ni]at hk
  have hk':(k:Int)<(n:Int):=by omega
  have hk2:k<l.length:=by omega
  rw[List.getElem_take]at he
  have ix:=h.ix Scene.len hk2
  have ld:=ld_nm (m:=m) hk2
  rw[he]at ld
  simp only[x2z]
  unfold x78
  simp only[x11t,hk',x1m6,x112,x10r,ix,sFA_plit,x1mi,ld,List.any_cons]
  simp[hg,Scene.c,t_eq]
  cases ht:teq x.nm e.nm with
  |true=>simp
  |false=>
   obtain⟨fc',h'⟩:=ih (k+1) j (fc+14) hd (by simp at hj;omega)
   simp(disch:=omega) [x11k]
   exact⟨fc',by simpa using h'⟩
theorem x1gv(d:Nat)(u:Nat){a:AV}{l:List Scene}(h:Sl Scene.c a l)(hl:l.length<=60):∀(suf:List Scene) (k j:Nat) (m:Mem) (fc:Nat),l.drop k=suf->suf.length<j ->
 ∃m',x1b (x10p (d+1)) [] u j a (I k) m fc=some (.tup [I (x12t l k suf).1,I (x12t l k suf).2],m'):=by
 intro suf
 induction suf with
 |nil=>
  intro k j m fc hd hj
  obtain⟨j,rfl⟩:∃i,j=i+1:=⟨j-1,by simp at hj;omega⟩
  have hk:¬((k:Int)<(l.length:Int)):=by have:=x1na.mp hd;omega
  simp only[x1b]
  unfold x79
  simp[h.len x12b,hk,xba,x12t]
 |cons e r ih=>
  intro k j m fc hd hj
  obtain⟨j,rfl⟩:∃i,j=i+1:=⟨j-1,by simp at hj;omega⟩
  obtain⟨hk,he,hd⟩:=x13a hd
  have hk':(k:Int)<(l.length:Int):=by omega
  have ix:=h.ix Scene.len hk
  have ld:=x15l (m:=m) Scene.len (by omega) hk
  rw[he]at ld
  have next:∀m fc,∃m',x1b (x10p (d+1)) [] u j a (I ((k:Int)+1)) m fc=some (.tup [I (x12t l (k+1) r).1,I (x12t l (k+1) r).2],m'):=λm fc=>ih (k+1) j m fc hd (by simp at hj;omega)
  simp only[x1b]
  unfold x79 xbd
  simp only[h.len x12b,x11t,hk',x1m6,x112,x10r,ix,ld,x14h,x152,x12t]
  simp[Scene.c,w_IsName]
  cases hn:nmOK e.nm with
  |false=>simp
  |true=>
   simp
   generalize hm1:Mem.set _ _ _=m1
   have hg:m1.get (u,fc+4+4,5)=some (.row e.c 0 false):=by rw[<-hm1];simp[Scene.c]
   unfold xbc
   obtain⟨fc',hL⟩:=x1gu (x10p (d+1)) [] u h hl hk (u,fc+4+4,5) (x1b (x10p (d+1)) [] u j) m1 hg (l.take k) 0 NN (fc+4+10+1) rfl (by rw[x12a,x1ni];omega)
   rw[show(I ((0:Nat):Int))=I 0 from rfl]at hL
   rw[hL]
   cases hany:(l.take k).any λx=>teq x.nm e.nm with
   |true=>simp
   |false=>
    unfold x77 xbb
    simp[hg,Scene.c,x191]
    cases hw:wi e.day 0 100000 with
    |false=>simp
    |true=>
     simp(disch:=omega) [hg,Scene.c,x191]
     cases hw2:wi e.bl (-100000) 100000 with
     |false=>simp
     |true=>
      simp
      exact next _ _
theorem x1gw(d:Nat){a:AV}{l:List Scene}(h:Sl Scene.c a l)(m:Mem):x10o (x10p (d+2)) x1l [a] m=some (.tup [I (x12u l).1,I (x12u l).2],m):=by
 obtain⟨m',h'⟩:∃m',x10p (d+2) [] x1l [a] mem0=some (.tup [I (x12u l).1,I (x12u l).2],m'):=by
  rw[xug]
  unfold x98 x7a xbe x12u
  by_cases hl:60<l.length
  .simp[h.len x12b,hl,show(60:Int)<l.length by omega]
  .obtain⟨m',h'⟩:=x1gv d 0 h (by omega) l 0 NN ⟨[],1⟩ 6 rfl (by rw[x12a];omega)
   simp[h.len x12b,hl,show ¬((60:Int)<l.length) by omega,mem0]
   exact⟨m',h'⟩
 exact call0_tup (by simp[h.still]) h' rfl
end Go.Ix
