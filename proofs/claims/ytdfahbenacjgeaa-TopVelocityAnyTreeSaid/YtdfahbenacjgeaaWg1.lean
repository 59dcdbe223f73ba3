import Derived.Test.YtdfahbenacjgeaaWg0
import Derived.Laws.Strings
import Derived.Test.YtdfahbenacjgeaaFxSound
import Derived.Laws.StructEq
set_option linter.unusedSimpArgs false
namespace Go.Ix
open Go.Proofs
theorem tW{σ R:Type}{N:Nat}(X:Nat->Nat->σ->Mem->Nat->R)(Inv:Nat->σ->Mem->Prop)(Q:R->Prop)(hstep:∀n k s m fc,k<N->Inv k s m->(∀s' m' fc',Inv (k+1) s' m'->Q (X n (k+1) s' m' fc'))->Q (X (n+1) k s m fc))(hend:∀n s m fc,Inv N s m->Q (X (n+1) N s m fc)):∀n k s m fc,k<=N->N<n+k->Inv k s m->Q (X n k s m fc):=by
 intro n;induction n with
 |zero=>intro k s m fc h1 h2;omega
 |succ n ih=>
  intro k s m fc h1 h2 hI;rcases xcu k N with h|h
  .exact hstep n k s m fc h hI λs' m' fc' hI'=>ih (k+1) s' m' fc' h (by omega) hI'
  .have:k=N:=(by omega);subst this;exact hend n s m fc hI
def RetF(T:AV->Prop)(r:O2):Prop:=∃a m' a',r=some (a,m')/\frz m'.get qN a=some a'/\T a'
theorem RetF.st{T:AV->Prop}{a:AV}{m:Mem}(h:still a=true)(ht:T a):RetF T (some (a,m)):=⟨a,m,a,rfl,xW _ 4 h,ht⟩
theorem RetF.tup{T:AV->Prop}{l:List AV}{m:Mem}(h:l.all still=true)(ht:T (.tup l)):RetF T (some (.tup l,m)):=⟨_,m,_,rfl,frz_tup h,ht⟩
theorem RetF.mk{T:AV->Prop}{a a':AV}{m:Mem}(h:frz m.get qN a=some a')(ht:T a'):RetF T (some (a,m)):=⟨a,m,a',rfl,h,ht⟩
theorem d8{T:AV->Prop}{call:qI}{f:FuncId}{l:List AV}(hl:l.all still=true)(h:RetF T (call [] f l mem0))(m:Mem):∃a,T a/\qK call f l m=some (a,m):=by obtain⟨a,m',a',h1,h2,h3⟩:=h;exact⟨a',h3,x6l hl h1 h2⟩
theorem tM{v:AV}{call:qI}{f:FuncId}{l:List AV}(hl:l.all still=true)(h:RetF (λa=>a=v) (call [] f l mem0))(m:Mem):qK call f l m=some (v,m):=by obtain⟨a,h1,h2⟩:=d8 hl h m;rw[h2,h1]
theorem frz_tup2{objs:Id->Option Ob}{a b a' b':AV}(ha:frz objs 5 a=some a')(hb:frz objs 5 b=some b'):frz objs qN (.tup [a,b])=some (.tup [a',b']):=by show([a,b].mapM (frz objs 5)).map AV.tup=_;simp only[xcx,xdm,ha,hb];rfl
theorem x6p{objs:Id->Option Ob}{a b c a' b' c':AV}(ha:frz objs 5 a=some a')(hb:frz objs 5 b=some b')(hc:frz objs 5 c=some c'):frz objs qN (.tup [a,b,c])=some (.tup [a',b',c']):=by show([a,b,c].mapM (frz objs 5)).map AV.tup=_;simp only[xcx,xdm,ha,hb,hc];rfl
theorem frz_I{objs:Id->Option Ob}{k:Nat}{x:Int}:frz objs (k+1) (I x)=some (I x):=rfl
theorem Gr.frzk{α:Type}{z:Nat}{enc:α->List AV}{l:List α}{a:AV}(hz:∀x,(enc x).length=z)(hs:∀x,(enc x).all still1=true){u t k:Nat}{m:Mem}(h:Gr z enc u t m a l):∃a',Sl enc a' l/\Go.Ix.frz m.get (k+2) a=some a':=by
 rcases h with ⟨rfl,rfl⟩|⟨s,ver,rfl,hg⟩
 .exact⟨nilS,Or.inl ⟨rfl,rfl⟩,rfl⟩
 .have hl:=vI hz l;refine⟨.slit (l.flatMap enc) l.length false,Sl.lit l false,?_⟩
  have:=u6 (objs:=m.get) (id:=(u,s,t)) (cs:=l.flatMap enc) (ver:=ver) (off:=0) (n:=l.length) (z:=z) (k:=k) (f:=false) (x:=true) hg (by omega) (by
   rw[xcd,xca (by omega)];exact d7 hs l)
  rw[xcd,xca (by omega)]at this;exact this
theorem Gr.len{α:Type}{z:Nat}{enc:α->List AV}{l:List α}{a:AV}{u t:Nat}{m:Mem}{y e:TypeId}(ht:Try.prog.underlying y=some (.slice e))(h:Gr z enc u t m a l):qJ Try.prog y a=some (I l.length):=by
 rcases h with ⟨rfl,rfl⟩|⟨s,ver,rfl,hg⟩
 .exact E9 ht
 .rfl
theorem wK{α:Type}{enc:α->List AV}{m:Mem}{l:List α}{k:Nat}(hk:k<l.length)(j:Nat){v:AV}(hv:((enc l[k]).drop j).head?=some v):sLd false 1 (.plit (((l.drop k).flatMap enc).drop j)) m=some v:=by
 rw[uO hk,xct];have hj:j<(enc l[k]).length:=by
  rcases xcu j (enc l[k]).length with h|h
  .exact h
  .rw[xdg h]at hv;cases hv
 rw[xgo (by omega)];cases hd:(enc l[k]).drop j with
 |nil=>rw[hd]at hv;cases hv
 |cons x r=>rw[hd]at hv;simp at hv;subst hv;rfl
theorem A6(d:Nat)(a b c:Int)(m:Mem):qK (qG (d+1)) aI [I a,I b,I c] m=some (B (wi a b c),m):=by refine call0 rfl (m':=⟨[],1⟩) ?_ rfl;rw[x19];unfold lG gU wi;by_cases h:b<=a<;>by_cases h2:a<=c<;>simp[h,h2,mem0]
theorem x6q(d:Nat)(a b:Int)(m:Mem)(h:-9223372036854775807<=b/\b<=9223372036854775807):qK (qG (d+2)) bO [I a,I b] m=some (B (wi a (-b) b),m):=by refine call0 rfl (m':=⟨[],1⟩) ?_ rfl;rw[x17];unfold lE gS;simp(disch:=omega) [mem0,A6,qQ]
theorem w_size7(d:Nat)(a:Int)(m:Mem)(h1:-9223372036854775808<a)(h2:a<=9223372036854775807):qK (qG (d+1)) bY [I a] m=some (I (a.natAbs:Int),m):=by refine call0 rfl (m':=⟨[],1⟩) ?_ rfl;rw[x21];unfold mI jV;simp(disch:=omega) [mem0,qQ];split<;>omega
abbrev T(s:ByteArray):AV:=.sc (.string s)
abbrev U8(c:Int):AV:=.sc (.int .u8 c)
def u8E(b:UInt8):List AV:=[U8 b.toNat]
theorem u8E_len(b:UInt8):(u8E b).length=1:=rfl
theorem A7(x y:Operand)(a b:Int):qT Try.prog .geq aA x y (U8 a) (U8 b)=some (B (decide (b<=a))):=by kernel_rfl
theorem K7(x y:Operand)(a b:Int):qT Try.prog .leq aA x y (U8 a) (U8 b)=some (B (decide (a<=b))):=by kernel_rfl
theorem u8_gt(x y:Operand)(a b:Int):qT Try.prog .gtr aA x y (U8 a) (U8 b)=some (B (decide (b<a))):=by kernel_rfl
theorem u8_lt(x y:Operand)(a b:Int):qT Try.prog .lss aA x y (U8 a) (U8 b)=some (B (decide (a<b))):=by kernel_rfl
theorem K8(x y:Operand)(a b:Int):qT Try.prog .eql aA x y (U8 a) (U8 b)=some (B (decide (a=b))):=by kernel_rfl
theorem u8_ne(x y:Operand)(a b:Int):qT Try.prog .neq aA x y (U8 a) (U8 b)=some (B (!decide (a=b))):=by kernel_rfl
def teq(a b:ByteArray):Bool:=a.toList == b.toList
theorem t_eq(x y:Operand)(a b:ByteArray):qT Try.prog .eql aB x y (T a) (T b)=some (B (teq a b)):=by kernel_rfl
@[simp] theorem sLenS_T(s:ByteArray):yQ (T s)=some (I s.size):=rfl
theorem u_bytes:Try.prog.underlying eZ=some (.slice aA):=by kernel_rfl
theorem u_u8:Try.prog.underlying aA=some (.int .u8):=by kernel_rfl
theorem u_str:Try.prog.underlying aB=some .string:=by kernel_rfl
theorem cvt_bytes(s:ByteArray):vS Try.prog aB eZ (T s)=some (.slit (s.data.toList.flatMap u8E) s.data.toList.length false):=by
 have e:(s.data.toList.map λb=>U8 b.toNat)=s.data.toList.flatMap u8E:=by
  induction s.data.toList with
  |nil=>rfl
  |cons b l ih=>rw[xcj,xct,ih];rfl
 refine sCvt_0 ?_;simp only[cvt0,rA,G5,u_bytes,u_u8,u_str];rw[e,vI (z:=1) u8E_len s.data.toList,xel]
theorem idx_T{s:ByteArray}{k:Nat}(h:k<s.data.toList.length):wG Try.prog aB (T s) (I k)=some (U8 (s.data.toList[k]).toNat):=by have:qR Try.prog (Instr.index aB (.string s) (.int .i64 k))=some (.int .u8 (s.data.toList[k]).toNat):=(by have h2:s[k]?=some s.data.toList[k]:=(by have h3:k<s.size:=(by simpa using h);rw[getElem?_pos s k h3];rfl);simp only[Instr.index,asIntOf,asInt,underlying,program,Bind.bind,Sem.bind,qR,Pure.pure,u_str];rw[xc2 (by omega),xcr,h2];rfl);have e:wG Try.prog aB (T s) (I k)=(qR Try.prog (Instr.index aB (.string s) (.int .i64 k))).map sE:=(by simp only[wG,I,rA]);rw[e,this];rfl
def chOK(p:Bool)(c:Int):Bool:=(decide (97<=c)&&decide (c<=122))||(decide (65<=c)&&decide (c<=90))||(p&&(decide (c=45)||(decide (48<=c)&&decide (c<=57))))
def wL:Nat->List UInt8->Bool
 |_,[]=>true
 |k,c::r=>chOK (decide (0<k)) c.toNat&&wL (k+1) r
def tJ(s:ByteArray):Bool:=decide (0<s.size)&&decide (s.size<=12)&&wL 0 s.data.toList
theorem ld_u8{m:Mem}{l:List UInt8}{k:Nat}(hk:k<l.length):sLd false 1 (.plit ((l.drop k).flatMap u8E)) m=some (U8 l[k].toNat):=by rw[uO hk,xct];rfl
theorem l_isName(call:qI)(hs:FHs)(u:Nat){a:AV}{l:List UInt8}(h:Sl u8E a l)(hl:l.length<=12):∀(suf:List UInt8) (k j:Nat) (m:Mem) (fc:Nat),l.drop k=suf->suf.length<j ->
 cM call hs u j a (I l.length) (I k) m fc=some (B (wL k suf),m):=by
 intro suf;induction suf with
 |nil=>intro k j m fc hd hj;obtain⟨j,rfl⟩:∃i,j=i+1:=⟨j-1,by simp at hj;omega⟩;have hk:¬((k:Int)<(l.length:Int)):=(by have:=xe7.mp hd;omega);simp only[cM];unfold jO pJ;simp[hk,wL]
 |cons e r ih=>
  intro k j m fc hd hj;obtain⟨j,rfl⟩:∃i,j=i+1:=⟨j-1,by simp at hj;omega⟩;obtain⟨hk,he,hd⟩:=d6 hd;have hk':(k:Int)<(l.length:Int):=(by omega);have ix:=h.ix u8E_len hk;have ld:=ld_u8 (m:=m) hk;have next:∀fc,cM call hs u j a (I l.length) (I (w64 ((k:Int)+1))) m fc=some (B (wL (k+1) r),m):=λfc=>by rw[qQ (by omega) (by omega)];exact ih (k+1) j m fc hd (by simp at hj;omega)
  rw[he]at ld;have hk0:decide ((0:Int)<(k:Int))=decide (0<k):=(by simp);simp only[cM];unfold jO pL pK jN jM;simp only[sK,hk',xcc,sM,qV,ix,ld,A7,K7,K8,yV,sW_f];simp only[wL,chOK];generalize (e.toNat:Int)=c;by_cases a1:97<=c<;>by_cases a2:c<=122<;>by_cases b1:65<=c<;>by_cases b2:c<=90<;>by_cases d1:48<=c<;>by_cases d2:c<=57<;>by_cases d0:c=45 <;>
   first
   |(exfalso;omega)
   |(by_cases hp:0<k<;>simp[a1,a2,b1,b2,d1,d2,d0,hp,A7,K7,K8,next])
theorem w_isName(d:Nat)(s:ByteArray)(m:Mem):qK (qG (d+1)) dH [T s] m=some (B (tJ s),m):=by
 refine call0 rfl (m':=⟨[],1⟩) ?_ rfl;rw[x1x];have e0:teq s ⟨#[]⟩=decide (s.size=0):=by
  unfold teq;rw[ByteArray.toList_eq,ByteArray.toList_eq];cases hs:s.data.toList with
  |nil=>have:s.size=0:=(by show s.data.size=0;rw[<-xdk,hs];rfl);simp[this]
  |cons x r=>have:s.size=r.length+1:=(by show s.data.size=_;rw[<-xdk,hs];rfl);simp[this]
 have hsz:s.data.toList.length=s.size:=rfl;unfold mE jP tJ;simp only[t_eq,e0,qV];by_cases h0:s.size=0
 .simp[h0,mem0]
 .by_cases h12:s.size<=12
  .have hL:=l_isName (qG d) [] 0 (Sl.lit (enc:=u8E) s.data.toList false) (by omega) s.data.toList 0 NN ⟨[],1⟩ (fc:=12) rfl (by rw[rQ];omega);have hlen:qJ Try.prog eZ (.slit (s.data.toList.flatMap u8E) s.data.toList.length false)=some (I s.data.toList.length):=(Sl.lit (enc:=u8E) s.data.toList false).len u_bytes;unfold pM;simp only[cvt_bytes,hlen];simp[h0,h12,show ¬((12:Int)<s.size) by omega,show 0<s.size by omega,mem0];exact hL
  .simp[h0,h12,show(12:Int)<s.size by omega,mem0]
theorem l_IsName(call:qI)(hs:FHs)(u:Nat){s:ByteArray}(hl:s.size<=12):∀(suf:List UInt8) (k j:Nat) (m:Mem) (fc:Nat),s.data.toList.drop k=suf->suf.length<j ->
 cH call hs u j (T s) (I k) m fc=some (B (wL k suf),m):=by
 have hsz:s.data.toList.length=s.size:=rfl;intro suf;induction suf with
 |nil=>intro k j m fc hd hj;obtain⟨j,rfl⟩:∃i,j=i+1:=⟨j-1,by simp at hj;omega⟩;have hk:¬((k:Int)<(s.size:Int)):=(by have:=xe7.mp hd;omega);simp only[cH];unfold gG nO;simp[hk,wL]
 |cons e r ih=>
  intro k j m fc hd hj;obtain⟨j,rfl⟩:∃i,j=i+1:=⟨j-1,by simp at hj;omega⟩;obtain⟨hk,he,hd⟩:=d6 hd;have hk':(k:Int)<(s.size:Int):=(by omega);have ix:=idx_T hk;have next:∀fc,cH call hs u j (T s) (I (w64 ((k:Int)+1))) m fc=some (B (wL (k+1) r),m):=λfc=>by rw[qQ (by omega) (by omega)];exact ih (k+1) j m fc hd (by simp at hj;omega)
  rw[he]at ix;simp only[cH];unfold gG;simp only[sLenS_T,qV,sK,hk',xcc,sM,ix,A7];simp only[wL,chOK];generalize (e.toNat:Int)=c;by_cases a1:97<=c<;>by_cases a2:c<=122<;>by_cases b1:65<=c<;>by_cases b2:c<=90<;>by_cases d1:c<48<;>by_cases d2:57<c<;>by_cases d0:c=45 <;>
   first
   |(exfalso;omega)
   |(have d1':(48<=c)=¬(c<48):=by rw[Int.not_lt]
     have d2':(c<=57)=¬(57<c):=by rw[Int.not_lt]
     by_cases hp:k=0<;>simp[a1,a2,b1,b2,d1,d2,d1',d2',d0,hp,xgd,A7,K7,K8,u8_ne,u8_lt,u8_gt,next]<;>(subst hp;have:=next (fc+44);simpa using this))
theorem w_IsName(d:Nat)(s:ByteArray)(m:Mem):qK (qG (d+1)) cU [T s] m=some (B (tJ s),m):=by
 refine call0 rfl (m':=⟨[],1⟩) ?_ rfl;rw[xy];have hsz:s.data.toList.length=s.size:=rfl;unfold kU gH tJ;by_cases h0:s.size=0
 .simp[h0,mem0]
 .by_cases h12:s.size<=12
  .have hL:=l_IsName (qG d) [] 0 (s:=s) h12 s.data.toList 0 NN ⟨[],1⟩ (fc:=10) rfl (by rw[rQ];omega);unfold nP;simp[h0,h12,show ¬((12:Int)<s.size) by omega,show ¬((s.size:Int)<1) by omega,show 0<s.size by omega,mem0];exact hL
  .simp[h0,h12,show(12:Int)<s.size by omega,show ¬((s.size:Int)<1) by omega,mem0]
theorem x9m{i j:Id}{cs:List AV}{v:Nat}:∀{h:Hp} {b:Bool},rT h i=some (.row cs v b)->∃b',rT (D0 h j) i=some (.row cs v b'):=by
 intro h b hi;have:=congrFun (J5 [j] h) i;rw[show uN [j] h=D0 h j from rfl]at this;rw[this];unfold shut;split
 .rw[hi];exact⟨_,rfl⟩
 .exact⟨b,hi⟩
theorem x6r{i:Id}{cs:List AV}{v:Nat}:∀(ids:List Id) {h:Hp} {b:Bool},rT h i=some (.row cs v b)->∃b',rT (uN ids h) i=some (.row cs v b')
 |[],h,b,hi=>⟨b,hi⟩
 |j::r,h,b,hi=>by obtain⟨b',h'⟩:=x9m (j:=j) hi;exact x6r r h'
theorem x9n{call:qI}{f:FuncId}{l l':List AV}{m m':Mem}{r r':AV}(hl:l.mapM (Go.Ix.frz m.get qN)=some l')(h:call [] f l' mem0=some (r,m'))(hr:Go.Ix.frz m'.get qN r=some r') :
 ∃m2:Mem,qK call f l m=some (r',m2)/\m2.next=m.next/\∀i cs v b,m.get i=some (.row cs v b)->∃b',m2.get i=some (.row cs v b'):=by
 refine⟨⟨uN (l.flatMap (reach m.get qN)) m.hp,m.next⟩,?_,rfl,λi cs v b hi=>x6r _ hi⟩;unfold qK;rw[hl];simp only[h,hr];rfl
structure Scene where
 nm:ByteArray
 day:Int
 bl:Int
def Scene.c(s:Scene):List AV:=[T s.nm,I s.day,I s.bl]
theorem Scene.len(s:Scene):s.c.length=3:=rfl
theorem yZ:Try.prog.underlying aG=some (.slice kK):=by kernel_rfl
theorem x9o:∃i,Try.prog.info? kK=some i/\i.size=3:=by have:(Try.prog.info? kK).map (·.size)=some 3:=(by kernel_rfl);rw[xc5]at this;exact this
theorem T1:dP=[T ⟨#[]⟩,I 0,I 0]:=by kernel_rfl
@[simp] theorem cells_T(s:ByteArray):(T s).cells=[T s]:=rfl
@[simp] theorem one_T(s:ByteArray):(T s).one=true:=rfl
theorem x9p{a:AV}{l:List Scene}(h:Sl Scene.c a l){k:Nat}(hk:k<=l.length)(h0:l≠[]):∃a',Sl Scene.c a' (l.take k)/\xU Try.prog aG a none (some (I k))=some a':=by
 rcases h with ⟨_,rfl⟩|⟨x,rfl⟩
 .exact absurd rfl h0
 obtain⟨i,hi,hs⟩:=x9o;have hl:=vI Scene.len l;refine⟨.slit ((l.take k).flatMap Scene.c) (l.take k).length (x&&decide ((k:Int)=(l.length:Int))),Sl.lit _ _,?_⟩;have e1:rA (.slit (l.flatMap Scene.c) l.length x)=none:=_root_.id rfl;have e2:asI (I (k:Int))=some (k:Int):=rfl;have e3:asI (I 0)=some 0:=rfl;unfold xU;simp only[e1,yZ,hi,Option.getD_some,Option.getD_none,e2,e3,hs,Int.sub_zero,xcr,Int.toNat_zero,xdu,xcd];rw[xc2 ⟨by omega,by omega,by omega,by omega⟩,xey,Nat.min_eq_left hk];have ht:∀(l:List Scene) (k:Nat),(l.flatMap Scene.c).take (k*3)=(l.take k).flatMap Scene.c:=by
  intro l;induction l with
  |nil=>intro k;simp
  |cons x r ih=>
   intro k;cases k with
   |zero=>simp
   |succ k=>rw[xct,xfs,xct,xd6,show k*3+3=x.c.length+k*3 by rw[Scene.len];omega,xgp,ih]
 rw[ht]
def d9(nm:ByteArray):Int->List Scene->Int
 |_,[]=>-1
 |k,x::r=>bif teq x.nm nm then k else d9 nm (k+1) r
theorem x6s(nm:ByteArray):∀(l:List Scene) (k:Int),0<=k->decide (0<=d9 nm k l)=l.any λy=>teq y.nm nm
 |[],k,_=>by simp[d9]
 |x::r,k,hk=>by
  rw[d9,List.any_cons];cases teq x.nm nm with
  |true=>simp[hk]
  |false=>simpa using x6s nm r (k+1) (by omega)
theorem x9q(d:Nat)(hs:FHs)(x y:Scene)(m:Mem):∃m',qG (d+1) hs aF [.agg x.c,.plit y.c] m=some (B (teq x.nm y.nm),m'):=by rw[x1z];unfold mG jR;simp[Scene.c,t_eq]
theorem x9r(d:Nat)(hs:FHs){a:AV}{l:List Scene}{y:Scene}(h:Sl Scene.c a l)(hl:l.length<1000000)(u:Nat):∀(suf:List Scene) (k j:Nat) (m:Mem) (fc:Nat),l.drop k=suf->suf.length<j ->
 ∃m',eK (qG (d+1)) hs u j a (.clo aF [.plit y.c]) (I l.length) (I k) m fc=some (I (d9 y.nm k suf),m'):=by
 intro suf;induction suf with
 |nil=>intro k j m fc hd hj;obtain⟨j,rfl⟩:∃i,j=i+1:=⟨j-1,by simp at hj;omega⟩;have hk:¬((k:Int)<(l.length:Int)):=(by have:=xe7.mp hd;omega);simp only[eK];unfold jZ;simp[hk,pW,d9]
 |cons e r ih=>
  intro k j m fc hd hj;obtain⟨j,rfl⟩:∃i,j=i+1:=⟨j-1,by simp at hj;omega⟩;obtain⟨hk,he,hd⟩:=d6 hd;have hk':(k:Int)<(l.length:Int):=(by omega);have ix:=h.ix Scene.len hk;have ld:=vW (m:=m) Scene.len (by omega) hk;rw[he]at ld;obtain⟨m1,hc⟩:=x9q d hs e y m;have hinv:uD (qG (d+1)) hs 2 (.clo aF [.plit y.c]) [.agg e.c] m=some (B (teq e.nm y.nm),m1):=hc;simp only[eK];unfold jZ;simp only[sK,hk',xcc,sM,qV,ix,ld,hinv,d9];cases ht:teq e.nm y.nm with
  |true=>simp
  |false=>obtain⟨m',h'⟩:=ih (k+1) j m1 (fc+11) hd (by simp at hj;omega);simp(disch:=omega) [qQ];exact⟨m',by simpa using h'⟩
theorem x9s(d:Nat){a:AV}{l:List Scene}{y:Scene}(h:Sl Scene.c a l)(hl:l.length<1000000) :
 ∃m',qG (d+3) [] dI [a,.clo aF [.plit y.c]] mem0=some (B (l.any λx=>teq x.nm y.nm),m'):=by
 obtain⟨m',h'⟩:=x9r d [] (y:=y) h hl 0 l 0 NN ⟨[],1⟩ 4 rfl (by rw[rQ];omega);have hi:qG (d+2) [] dK [a,.clo aF [.plit y.c]] mem0=some (I (d9 y.nm 0 l),m'):=(by rw[x24];unfold mL kA pX;simp[h.len yZ,mem0];exact h');have hc:=λm:Mem=>call0 (m:=m) (call:=qG (d+2)) (l:=[a,.clo aF [.plit y.c]]) (by simp only[xdo,xfc,h.still,xda,xem];rfl) hi rfl
 have hc3:=λm:Mem=>call3 (m:=m) (call:=qG (d+2)) (l:=[a,.clo aF [.plit y.c]]) (by simp only[xdo,xfc,h.still,xda,xem];rfl) hi rfl
 rw[x1y];unfold mF jQ;simp[hc,hc3,mem0,<-x6s y.nm l 0 (by omega)]
def yA(l:List Scene):Nat->List Scene->Int×Int
 |_,[]=>(0,0)
 |k,x::r=>
  bif !(tJ x.nm)then((k:Int),4)
  else bif(l.take k).any (λy=>teq y.nm x.nm)then((k:Int),5)
  else bif !(wi x.day 0 100000)||!(wi x.bl (-100000) 100000)then((k:Int),2)
  else yA l (k+1) r
def xD(l:List Scene):Int×Int:=bif decide (60<l.length)then(0,8)else yA l 0 l
theorem x9t(d:Nat)(u:Nat){a:AV}{l:List Scene}(h:Sl Scene.c a l)(hl:l.length<=60):∀(suf:List Scene) (k j:Nat) (m:Mem) (fc:Nat),l.drop k=suf->suf.length<j ->
 ∃m',cJ (qG (d+3)) [] u j a a (I l.length) (I k) m fc=some (.tup [I (yA l k suf).1,I (yA l k suf).2],m'):=by
 intro suf;induction suf with
 |nil=>intro k j m fc hd hj;obtain⟨j,rfl⟩:∃i,j=i+1:=⟨j-1,by simp at hj;omega⟩;have hk:¬((k:Int)<(l.length:Int)):=(by have:=xe7.mp hd;omega);simp only[cJ];unfold iZ;simp[hk,pC,yA]
 |cons e r ih=>
  intro k j m fc hd hj;obtain⟨j,rfl⟩:∃i,j=i+1:=⟨j-1,by simp at hj;omega⟩;obtain⟨hk,he,hd⟩:=d6 hd;have hk':(k:Int)<(l.length:Int):=(by omega);have ix:=h.ix Scene.len hk;have ld:=vW (m:=m) Scene.len (by omega) hk;rw[he]at ld;obtain⟨a',hpre,hsl⟩:=x9p h (k:=k) (by omega) (by rintro rfl;simp at hk);have next:∀m fc,∃m',cJ (qG (d+3)) [] u j a a (I l.length) (I ((k:Int)+1)) m fc=some (.tup [I (yA l (k+1) r).1,I (yA l (k+1) r).2],m'):=λm fc=>ih (k+1) j m fc hd (by simp at hj;omega)
  simp only[cJ];unfold iZ;simp only[sK,hk',xcc,sM,qV,ix,ld,x6k,T1,yA];simp[Scene.c,w_isName];cases hn:tJ e.nm with
  |false=>simp
  |true=>
   simp[hsl];generalize hm1:Mem.set _ _ _=m1;have hg:m1.get (u,fc+4,5)=some (.row e.c 0 false):=(by rw[<-hm1];simp[Scene.c]);obtain⟨mc,hcc⟩:=x9s d (y:=e) hpre (by rw[xey];omega);have hfr:[a',AV.clo aF [.ptr (u,fc+4,5) 0 0]].mapM (Go.Ix.frz m1.get qN)=some [a',.clo aF [.plit e.c]]:=by
    have h1:Go.Ix.frz m1.get qN a'=some a':=xW _ 4 hpre.still
    have h3:e.c.mapM (Go.Ix.frz m1.get 4)=some e.c:=d5 λb hb=>A1 _ 3 (by
     simp[Scene.c]at hb;rcases hb with rfl|rfl|rfl<;>rfl)
    have h4:Go.Ix.frz m1.get 5 (.ptr (u,fc+4,5) 0 0)=some (.plit e.c):=(by simp only[Go.Ix.frz,hg,xcm,xcd,h3];rfl);have h2:Go.Ix.frz m1.get qN (.clo aF [.ptr (u,fc+4,5) 0 0])=some (.clo aF [.plit e.c]):=(by show([AV.ptr (u,fc+4,5) 0 0].mapM (Go.Ix.frz m1.get 5)).map (AV.clo aF)=_;simp only[xcx,xdm,h4];rfl);simp only[xcx,xdm,h1,h2];rfl
   obtain⟨m2,hs2,_,hrow⟩:=x9n hfr hcc rfl;obtain⟨b',hg2⟩:=hrow _ _ _ _ hg;simp only[hs2,qV];cases hany:(l.take k).any λx=>teq x.nm e.nm with
   |true=>simp
   |false=>
    simp[hg2,Scene.c,A6];cases hw:wi e.day 0 100000 with
    |false=>simp
    |true=>
     simp(disch:=omega) [hg2,Scene.c,x6q];cases hw2:wi e.bl (-100000) 100000 with
     |false=>simp
     |true=>obtain⟨m',h'⟩:=next m2 (fc+31);simp;exact⟨m',h'⟩
theorem x9u(d:Nat){a:AV}{l:List Scene}(h:Sl Scene.c a l)(m:Mem):qK (qG (d+4)) bV [a] m=some (.tup [I (xD l).1,I (xD l).2],m):=by
 obtain⟨m',h'⟩:∃m',qG (d+4) [] bV [a] mem0=some (.tup [I (xD l).1,I (xD l).2],m'):=by
  rw[x1o];unfold lU jA pD xD;by_cases hl:60<l.length
  .simp[h.len yZ,hl,show(60:Int)<l.length by omega]
  .obtain⟨m',h'⟩:=x9t d 0 h (by omega) l 0 NN ⟨[],1⟩ 8 rfl (by rw[rQ];omega);simp[h.len yZ,hl,show ¬((60:Int)<l.length) by omega,mem0];exact⟨m',h'⟩
 exact call0_tup (by simp[h.still]) h' rfl
end Go.Ix
set_option linter.unusedVariables false
namespace Go.Ix
open Go.Proofs
variable{P:Program}
theorem zA{α β:Type}(f:α->Sem β):∀s:Sem α,qR P (s >>= f)=(qR P s).bind λa=>qR P (f a):=by
 intro s;show qR P (Sem.bind s f)=_;induction s with
 |pure a=>rfl
 |program k ih=>exact ih P
 |mark x k ih=>exact ih
 |_=>rfl
theorem K9{α:Type}(a:α):qR P (pure a:Sem α)=some a:=rfl
theorem T2:qR P program=some P:=rfl
theorem x6t{t:TypeId}{d:TypeDesc}(h:P.underlying t=some d):qR P (underlying t)=some d:=by simp only[underlying,zA,T2,qV,h];rfl
theorem x9v(d:Nat)(t:TypeId)(xs ys:Array Value)(ht:P.underlying t=some (.struct (P.fieldsOf t)))(hp:P.stoodInHeld t=false) :
 qR P (Op.equalIn (d+1) t (.agg xs) (.agg ys))=qR P (Op.eqFields d xs ys (P.fieldsOf t).toList):=by
 simp only[Op.equalIn,zA,x6t ht,qV,T2,hp,xcv,xck];rw[<-Array.forIn_toList];generalize (P.fieldsOf t).toList=fs;clear ht;induction fs with
 |nil=>simp[Op.eqFields,K9]
 |cons f fs ih=>
  simp only[List.forIn_cons,Op.eqFields,zA];split
  .simp only[zA];generalize qR P (part f.type xs f.offset)=r1;cases r1 with
   |none=>rfl
   |some a=>
    generalize hb:qR P (part f.type ys f.offset)=r2;cases r2 with
    |none=>simp[hb]
    |some b=>
     simp only[hb,qV];generalize qR P (Op.equalIn d f.type a b)=r3;cases r3 with
     |none=>rfl
     |some r=>
      cases r
      .rfl
      .exact ih
  .exact ih
theorem x9w(d:Nat)(t:TypeId)(k k':IntKind)(a b:Int)(h:P.underlying t=some (.int k')):qR P (Op.equalIn (d+1) t (.int k a) (.int k b))=some (a == b):=by simp[Op.equalIn,zA,x6t h,K9]
theorem x9x(op:BinOp)(t:TypeId)(x y:Operand)(xs ys:Array Value)(hm:P.eqGuardType P.depth t=false):qR P (eqGuard op t x y (.agg xs) (.agg ys))=some ():=by cases op<;>simp[eqGuard,zA,T2,K9,hm]
theorem x9y{t:TypeId}{x y:Operand}{xs ys:List Value}{r:Bool}(hm:P.eqGuardType P.depth t=false)(hr:qR P (Op.equalIn 10000 t (.agg xs.toArray) (.agg ys.toArray))=some r)(hx:∃k,scs k=some xs) :
 ∀kx ky,scs kx=some xs->scs ky=some ys->qT P .neq t x y (.agg kx) (.agg ky)=some (B (!r)):=by
 intro kx ky h1 h2;refine sBin_0 ?_;simp only[y4,rA,h1,h2,zA,x9x _ _ _ _ _ _ hm,qV];have:qR P (binOp .neq t (.agg xs.toArray) (.agg ys.toArray))=some (.bool (!r)):=(by show qR P (do pure (Value.bool (!(<-Op.equal t (.agg xs.toArray) (.agg ys.toArray)))))=_;simp only[zA,Op.equal,Op.maxDepth,hr,qV,K9]);rw[this];rfl
theorem und_int:Try.prog.underlying sD=some (.int .i64):=by kernel_rfl
theorem x6u(d:Nat)(xs ys:Array Value)(ga gb:Nat->Int):∀fs:List Field,(∀f∈fs,f.name≠"_"/\f.type=sD/\qR Try.prog (part sD xs f.offset)=some (.int .i64 (ga f.offset))/\qR Try.prog (part sD ys f.offset)=some (.int .i64 (gb f.offset))) ->
 qR Try.prog (Op.eqFields (d+1) xs ys fs)=some (fs.all λf=>ga f.offset == gb f.offset)
 |[],_=>rfl
 |f::fs,h=>by
  obtain⟨h1,h2,h3,h4⟩:=h f (xcf ..);have ih:=x6u d xs ys ga gb fs λg hg=>h g (xc9 _ hg)
  simp only[Op.eqFields,h1,ne_eq,not_false_eq_true,xcm,h2,zA,h3,h4,qV,x9w _ _ _ _ _ _ und_int,xdo];cases ga f.offset == gb f.offset
  .rfl
  .exact ih
theorem eq_ints{t:TypeId}{offs:List Nat}{xs ys:Array Value}{ga gb:Nat->Int}(hS:Try.prog.underlying t=some (.struct (Try.prog.fieldsOf t)))(hs:Try.prog.stoodInHeld t=false)(hF:((Try.prog.fieldsOf t).toList.map λf=>(f.type,f.offset,decide (f.name = "_")))=offs.map λo=>(sD,o,false))(hp:∀o∈offs,qR Try.prog (part sD xs o)=some (.int .i64 (ga o))/\qR Try.prog (part sD ys o)=some (.int .i64 (gb o))) :
 qR Try.prog (Op.equalIn 10000 t (.agg xs) (.agg ys))=some (offs.all λo=>ga o == gb o):=by
 rw[show(10000:Nat)=9998+1+1 from rfl,x9v _ _ _ _ hS hs];generalize (Try.prog.fieldsOf t).toList=fs at hF;rw[x6u 9998 xs ys ga gb fs]
 .have:(fs.map λf=>f.offset)=offs:=(by have:=congrArg (List.map λx:TypeId×Nat×Bool=>x.2.1) hF;simpa[List.map_map,Function.comp_def]using this);rw[<-this,List.all_map];rfl
 .intro f hf;have h1:(f.type,f.offset,decide (f.name = "_"))∈offs.map λo=>(sD,o,false):=by rw[<-hF];exact List.mem_map_of_mem hf
  obtain⟨o,ho,e⟩:=xch.mp h1;simp only[xc3]at e;obtain⟨e1,e2,e3⟩:=e;subst e2;exact⟨of_decide_eq_false e3.symm,e1.symm,hp _ ho⟩
end Go.Ix
