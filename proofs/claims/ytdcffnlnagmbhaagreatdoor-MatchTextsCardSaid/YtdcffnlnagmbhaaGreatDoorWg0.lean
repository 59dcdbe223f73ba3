import Derived.Test.YtdcffnlnagmbhaaGreatDoorFxTop
import Derived.Test.YtdcffnlnagmbhaaGreatDoorFxTell
import Derived.Test.YtdcffnlnagmbhaaGreatDoorFxShelf
import Derived.Lib.SmallJoins
import Derived.Lib.Join
import Derived.Test.YtdcffnlnagmbhaaGreatDoorFxCall
import Derived.Test.YtdcffnlnagmbhaaGreatDoorFxOps
set_option linter.unusedSimpArgs false
set_option linter.unusedVariables false
namespace Go.Ix
open Go Go.Proofs
theorem xvz{w w':World}(h:Go.RowKit.Below w.heap.size w w'):Ext (λ_=>True) w w':=
 ⟨h.size,λb hb=>by simp only[World.shape?];rw[h.block b hb],λb _ hb=>h.block b hb,h.os,h.output⟩
theorem xud{P:Program}{E:Env}{w:World}{st:St}{f:FuncId}{vs:Array Value}{r:AV}(hb:xqo P f)(hS:Sim E w st)(hc:Calls P f vs w λe w'=>∃u,e=.returned u/\Ext (λ_=>True) w w'/\V E.F w' E.η E.ζ.1 r u):xqo P f/\xrb P E w st f vs r st:=by
 refine⟨hb,λcs=>?_⟩
 obtain⟨e,w',fr,⟨u,rfl,hx,hV⟩,h1,h2,h3⟩:=hc cs
 obtain⟨g1,g2⟩:=hS.outside (F':=E.F) hx (λ_ h=>h) (λ_ h=>.inl h)
 exact⟨E,w',u,.inl ⟨hb,fr,h1,h2,h3⟩,hV,g1,g2,x170 _,λid ver h=>.inl ⟨ver,h⟩⟩
theorem x10j{E:Env}{w:World}{a:AV}{vs:Array Value}(h:ArgsV E w [a] vs):∃v,vs=#[v]/\E.V w a v:=by
 obtain⟨h1,h2⟩:=h
 have h1':vs.size=1:=h1
 refine⟨vs[0],?_,h2 0 a vs[0] rfl (x177 (by omega))⟩
 refine Array.ext (by simp[h1']) λi a b=>?_
 have:i=0:=by omega
 subst this
 rfl
theorem argsV_two{E:Env}{w:World}{a b:AV}{vs:Array Value}(h:ArgsV E w [a,b] vs):∃u v,vs=#[u,v]/\E.V w a u/\E.V w b v:=by
 obtain⟨h1,h2⟩:=h
 have h1':vs.size=2:=h1
 refine⟨vs[0],vs[1],?_,h2 0 a vs[0] rfl (x177 (by omega)),h2 1 b vs[1] rfl (x177 (by omega))⟩
 refine Array.ext (by simp[h1']) λi a b=>?_
 have:i=0\/i=1:=by omega
 rcases this with rfl|rfl<;>rfl
theorem ext_grow(w:World)(k:Nat)(os:Array Obj):Ext (λ_=>True) w (Go.Sort.grow (w.drewN k) os):=by
 have hb:∀b,b<w.heap.size->(Go.Sort.grow (w.drewN k) os).heap[b]?=w.heap[b]?:=λb hb=>by
  simp only[Go.Sort.grow,World.drewN]
  rw[x19e hb]
 exact⟨by simp[Go.Sort.grow,World.drewN],λb h=>by simp only[World.shape?];rw[hb b h],λb _ h=>hb b h,rfl,rfl⟩
theorem xxr:∀(k n:Nat),1<=k->n<10 ^ k->digF k n=Lib.decDigits n
 |0,n,h,_=>by omega
 |k+1,n,_,h=>by
  rw[Lib.decDigits]
  unfold digF
  by_cases h1:n<10
  .rw[x16u h1,dif_pos h1]
  .rw[x16t h1,dif_neg h1]
   rw[xxr k (n / 10) (by
    rcases k with _|k
    .simp at h;omega
    .omega) (by rw[Nat.pow_succ]at h;omega)]
theorem decM_itoa(n:Int)(h0:-9223372036854775808<=n)(h1:n<=9223372036854775807):decM n=Lib.itoa n:=by
 unfold decM Lib.itoa
 split
 .rw[xxr 20 _ (by omega) (by omega)]
 .rw[xxr 20 _ (by omega) (by omega)]
theorem x12p{E:Env}{w:World}{st:St}{args:List AV}{vs:Array Value}{r:AV}(hk:xsq Tryz.prog w)(hS:Sim E w st)(hA:ArgsV E w args vs)(hr:xrr 1 args=some r):xqo Tryz.prog x15/\xrb Tryz.prog E w st x15 vs r st:=by
 obtain⟨hk1,hk2⟩:=hk
 unfold xrr at hr
 split at hr
 .rename_i n _
  split at hr
  .rename_i hn
   cases hr
   obtain⟨v,rfl,hv⟩:=x10j hA
   have:=V_sc hv
   subst this
   refine xud (xuc (by kernel_rfl)) hS (Calls.mono (Tryz.strconv_Itoa n hn.1 hn.2 w (hk1 (by kernel_rfl))) λe w' ⟨he,k,os,hw⟩=>⟨_,he,?_,?_⟩)
   .rw[hw];exact ext_grow _ _ _
   .rw[decM_itoa n hn.1 hn.2];exact .sc _
  .cases hr
 .rename_i h
  cases h
 .cases hr
set_option maxHeartbeats 1000000 in
theorem x12q{E:Env}{w:World}{st:St}{args:List AV}{vs:Array Value}{r:AV}(hk:xsq Tryz.prog w)(hS:Sim E w st)(hA:ArgsV E w args vs)(hr:xrr 2 args=some r):xqo Tryz.prog x2d/\xrb Tryz.prog E w st x2d vs r st:=by
 obtain⟨hk1,hk2⟩:=hk
 unfold xrr at hr
 split at hr
 .rename_i h
  cases h
 .rename_i s _
  split at hr
  .rename_i hs
   obtain⟨v,rfl,hv⟩:=x10j hA
   have:=V_sc hv
   subst this
   have hk3:=hk2 (by kernel_rfl)
   have two:∀(w':World) (a b:AV) (u v:Value),V E.F w' E.η E.ζ.1 a u->V E.F w' E.η E.ζ.1 b v->V E.F w' E.η E.ζ.1 (.tup [a,b]) (.tuple #[u,v]):=λw' a b u v h1 h2=>.tup _ _ rfl λi x y hx hy=>by
    match i,hx,hy with
    |0,hx,hy=>cases hx;cases hy;exact h1
    |1,hx,hy=>cases hx;cases hy;exact h2
    |i+2,hx,hy=>simp at hx
   cases hv:Lib.atoiAll s.data.toList with
   |ok v=>
    rw[hv]at hr
    cases hr
    refine xud (xuc (by kernel_rfl)) hS (Calls.mono (Tryz.strconv_Atoi_ok s (by omega) v hv w) λe w' ⟨he,hw⟩=>⟨_,he,?_,two _ _ _ _ _ (.sc _) (.sc _)⟩)
    rcases hw with rfl|⟨t,rfl⟩
    .exact Ext.refl _ _
    .exact xvz (Go.Joins.below_bytesWorld _ _ _ _ (x170 _))
   |range=>
    rw[hv]at hr
    cases hr
    obtain⟨_,x,hx,tp,p,rfl⟩:=hk3
    refine xud (xuc (by kernel_rfl)) hS (Calls.mono (Tryz.strconv_Atoi_range_var s (by omega) hv tp p w hx) λe w' ⟨N,he,_,_,hw⟩=>⟨_,he,xvz hw,two _ _ _ _ _ (.sc _) (.un _ _ ⟨_,_,rfl⟩ ?_)⟩)
    exact⟨rfl,rfl,λb h=>by cases h⟩
   |_=>
    rw[hv]at hr
    cases hr
    obtain⟨⟨x,hx,tp,p,rfl⟩,_⟩:=hk3
    refine xud (xuc (by kernel_rfl)) hS (Calls.mono (Tryz.strconv_Atoi_bad_var s (by omega) (hv.trans (by kernel_rfl)) tp p w hx) λe w' ⟨N,he,_,_,hw⟩=>⟨_,he,xvz hw,two _ _ _ _ _ (.sc _) (.un _ _ ⟨_,_,rfl⟩ ?_)⟩)
    exact⟨rfl,rfl,λb h=>by cases h⟩
  .cases hr
 .cases hr
theorem x10k:∀{cs:List AV} {l:List ByteArray},xsx cs=some l->cs=l.map λs=>.sc (.string s)
 |[],l,h=>by simp[xsx]at h;subst h;rfl
 |a::cs,l,h=>by
  unfold xsx at h
  split at h
  .cases ‹_::_=[]›
  .rename_i s r e
   cases e
   simp only[x16x]at h
   obtain⟨l',h1,rfl⟩:=h
   rw[x10k h1];rfl
  .cases h
theorem xxs(sep:List UInt8):∀l:List (List UInt8),xqm sep l=Lib.join l sep
 |[]=>rfl
 |[x]=>(Lib.join_one x sep).symm
 |x::y::r=>by
  have ih:=xxs sep (y::r)
  show x++(sep++xqm sep (y::r))=_
  rw[ih,Lib.join_cons,Lib.join_cons]
  simp[Lib.joinTail]
theorem x12r{P:Program}{E:Env}{w:World}{st:St}{f:FuncId}{args:List AV}{vs:Array Value}{r:AV}(hb:xqo P f)(hS:Sim E w st)(hA:ArgsV E w args vs)(h:tell5 st.objs args=some r)(hc0:∀(a:Option Addr) (c:Nat) (sep:ByteArray) (w:World),Calls P f #[.slice a 0 c,.string sep] w λe w'=>e=.returned (.string ⟨#[]⟩)/\w'=w)(hc:∀(bk o c:Nat) (xs:List ByteArray) (sep:ByteArray) (w:World),(∀(j:Nat) x,xs[j]?=some x->w.cell? ⟨bk,o+j,none⟩=some (.string x))->bk<w.heap.size->xs.length<=140737488355328->xs.length<=c->(Lib.join (xs.map (·.data.toList)) sep.data.toList).length<=140737488355328 ->
 Calls P f #[.slice (some ⟨bk,o,none⟩) xs.length c,.string sep] w λe w'=>e=.returned (.string ⟨(Lib.join (xs.map (·.data.toList)) sep.data.toList).toArray⟩)/\Go.RowKit.Below w.heap.size w w') :
 xqo P f/\xrb P E w st f vs r st:=by
 unfold tell5 at h
 split at h
 rotate_left
 .cases h
 rename_i a sep
 split at h
 rotate_left
 .cases h
 rename_i cs n hel
 split at h
 rotate_left
 .cases h
 rename_i l hl
 split at h
 rotate_left
 .cases h
 rename_i hcd
 cases h
 obtain⟨u,v,rfl,hV,hV2⟩:=argsV_two hA
 have:=V_sc hV2
 subst this
 have hcs:=x10k hl
 have hz:∀(b:Option Addr) (c:Nat),u=.slice b 0 c->l=[]->xqo P f/\xrb P E w st f #[u,.string sep] (.sc (.string ⟨(xqm sep.data.toList (l.map (·.data.toList))).toArray⟩)) st:=by
  rintro b c rfl rfl
  refine xud hb hS ((hc0 b c sep w).mono λe w' ⟨he,hw⟩=>⟨_,he,?_,.sc _⟩)
  rw[hw];exact Ext.refl _ _
 have hk:∀(bk o c:Nat),u=.slice (some ⟨bk,o,none⟩) n c->l.length=n->(∀(j:Nat) x,l[j]?=some x->w.cell? ⟨bk,o+j,none⟩=some (.string x))->bk<w.heap.size->n<=c->xqo P f/\xrb P E w st f #[u,.string sep] (.sc (.string ⟨(xqm sep.data.toList (l.map (·.data.toList))).toArray⟩)) st:=by
  rintro bk o c rfl rfl h1 h2 h3
  refine xud hb hS ((hc bk o c l sep w h1 h2 (by omega) h3 (by rw[<-xxs];omega)).mono λe w' ⟨he,hw⟩=>⟨_,he,xvz hw,?_⟩)
  rw[xxs];exact .sc _
 unfold elems at hel
 split at hel
 .rename_i c
  have e:=V_sc hV
  cases hel
  have:l=[]:=by
   cases l with
   |nil=>rfl
   |cons x r=>simp at hcs
  exact hz _ _ e this
 .rename_i cs' n' x
  split at hel
  rotate_left
  .cases hel
  rename_i hle
  cases hel
  obtain⟨ad,cap,e,hL,hn,-⟩:=xru hV
  rw[x18q]at hcs hle
  have hln:l.length=n:=by
   have:=congrArg List.length hcs
   simp at this
   omega
  by_cases h0:n=0
  .subst h0
   exact hz _ _ e (x18i.1 hln)
  .have hne:cs'≠[]:=by rintro rfl;simp at hle;omega
   obtain⟨hF,hsp⟩:=hL.2 hne
   refine hk ad.block ad.off cap (by rw[e];congr 2;cases ad;simp at hsp;rw[hsp]) hln (λj y hy=>?_) (hS.fin _ (.inl hF)) hn
   have h1:cs'[j]?=some (.sc (.string y)):=by
    have h2:=congrArg (λq=>q[j]?) hcs
    simp only[x18d,x18n,hy,Option.map_some]at h2
    split at h2
    .exact h2
    .cases h2
   obtain⟨v,hv,hV3,-⟩:=hL.1 j _ h1
   rw[hv,V_sc hV3]
 .rename_i id ver off n' z x
  split at hel
  rotate_left
  .cases hel
  rename_i cs' v fz hob
  split at hel
  rotate_left
  .cases hel
  rename_i hcd2
  obtain⟨rfl,rfl,hle⟩:=hcd2
  cases hel
  rw[x18q]at hcs hle
  have hln:l.length=n:=by
   have:=congrArg List.length hcs
   simp at this
   omega
  obtain⟨blk,base,len,ad,cap,hη,e,had,hlen,hn,-⟩:=xqy hV
  by_cases h0:n=0
  .subst h0
   exact hz _ _ e (x18i.1 hln)
  .obtain⟨-,-,arr,tt,k3,k4,k5,-⟩:=xsn hS hob hη
   have had:=had.resolve_right (by omega)
   refine hk blk (base+off) cap (by rw[e,had]) hln (λj y hy=>?_) (xsz k3) hn
   have h1:cs'[off+j]?=some (.sc (.string y)):=by
    have h2:=congrArg (λq=>q[j]?) hcs
    simp only[x18d,x182,x18n,hy,Option.map_some]at h2
    split at h2
    .exact h2
    .cases h2
   obtain⟨v,hv,hV3,-⟩:=k5 _ _ h1
   rw[xu7 k3,x181,hv,V_sc hV3]
 .cases hel
theorem told_ok:xtp Tryz.prog pol:=by
 intro E w st f args vs r st' hp hk hS hA hr
 unfold tellB at hr
 rcases pol_told f hp with ⟨rfl,e⟩|⟨rfl,e⟩|⟨rfl,e⟩
 .rw[e]at hr
  simp only[show Nat.beq 1 3=false from by rfl,show Nat.ble 4 1=false from by rfl,cond_false,x16x,x16v]at hr
  obtain⟨r0,hr,rfl,rfl⟩:=hr
  exact x12p hk hS hA hr
 .rw[e]at hr
  simp only[show Nat.beq 2 3=false from by rfl,show Nat.ble 4 2=false from by rfl,cond_false,x16x,x16v]at hr
  obtain⟨r0,hr,rfl,rfl⟩:=hr
  exact x12q hk hS hA hr
 .rw[e]at hr
  simp only[show Nat.beq 5 3=false from by rfl,show Nat.ble 4 5=true from by rfl,cond_false,cond_true,x16x,x16v]at hr
  obtain⟨r0,hr,rfl,rfl⟩:=hr
  unfold tellR at hr
  simp only[show Nat.beq 5 4=false from by rfl,cond_false]at hr
  exact x12r (xuc (by kernel_rfl)) hS hA hr (λa c sep w=>Tryz.strings_Join_none a c sep w) (λbk o c xs sep w h1 h2 h3 h4 h5=>Tryz.strings_Join bk o c xs sep w h1 h2 h3 h4 h5)
end Go.Ix
namespace Go.Ix
open Go.Proofs
variable{R:Type}{P:Program}{m:Mem}
@[simp] theorem xsb(x y:Int):sAdd (I x) (I y)=some (I (w64 (x+y))):=_root_.id rfl
@[simp] theorem sSub_I(x y:Int):sSub (I x) (I y)=some (I (w64 (x-y))):=_root_.id rfl
@[simp] theorem sMul_I(x y:Int):sMul (I x) (I y)=some (I (w64 (x*y))):=_root_.id rfl
@[simp] theorem xrl(x y:Int):sLt (I x) (I y)=some (B (decide (x<y))):=_root_.id rfl
@[simp] theorem sLe_I(x y:Int):sLe (I x) (I y)=some (B (decide (x<=y))):=_root_.id rfl
@[simp] theorem xue(x y:Int):sGt (I x) (I y)=some (B (decide (y<x))):=_root_.id rfl
@[simp] theorem sGe_I(x y:Int):sGe (I x) (I y)=some (B (decide (y<=x))):=_root_.id rfl
@[simp] theorem xsc(x y:Int):sEq (I x) (I y)=some (B (decide (x=y))):=_root_.id rfl
@[simp] theorem xt6(x y:Int):sNe (I x) (I y)=some (B (!decide (x=y))):=_root_.id rfl
@[simp] theorem sNeg_I(x:Int):sNeg (I x)=some (I (w64 (0-x))):=_root_.id rfl
@[simp] theorem xsr(b:Bool):sNot (B b)=some (B (!b)):=_root_.id rfl
@[simp] theorem sMin_I(x y:Int):sMin (I x) (I y)=some (I (if y<x then y else x)):=_root_.id rfl
@[simp] theorem sMax_I(x y:Int):sMax (I x) (I y)=some (I (if y > x then y else x)):=_root_.id rfl
theorem sQuo_I{x y:Int}(h:y≠0):sQuo (I x) (I y)=some (I (w64 (x.tdiv y))):=by simp[sQuo,h]
theorem sRem_I{x y:Int}(h:y≠0):sRem (I x) (I y)=some (I (x.tmod y)):=by simp[sRem,h]
@[simp] theorem xqe(c:Bool)(a b:AV):xph (B c) a b=some (bif c then a else b):=_root_.id rfl
@[simp] theorem xq6(a b:Option R):xpa (B true) a b=a:=_root_.id rfl
@[simp] theorem xq8(a b:Option R):xpa (B false) a b=b:=_root_.id rfl
@[simp] theorem sW_t(b:Bool):sW (B b) true=b:=by cases b<;>rfl
@[simp] theorem sW_f(b:Bool):sW (B b) false=!b:=by cases b<;>rfl
@[simp] theorem sW_U(w:Bool):sW U w=false:=_root_.id rfl
@[simp] theorem xss(l:List AV)(i:Nat):sExt (.tup l) i=l[i]?:=_root_.id rfl
@[simp] theorem cells_I(x:Int):(I x).cells=[I x]:=_root_.id rfl
@[simp] theorem cells_B(x:Bool):(B x).cells=[B x]:=_root_.id rfl
@[simp] theorem x10l(l:List AV):(AV.agg l).cells=l:=_root_.id rfl
@[simp] theorem cells_slit(l:List AV)(n:Nat)(x:Bool):(AV.slit l n x).cells=[.slit l n x]:=_root_.id rfl
@[simp] theorem cells_sref(id:Id)(ver off n z:Nat)(f:Bool):(AV.sref id ver off n z f).cells=[.sref id ver off n z f]:=_root_.id rfl
@[simp] theorem cells_nilS:(nilS).cells=[nilS]:=_root_.id rfl
@[simp] theorem one_I(x:Int):(I x).one=true:=_root_.id rfl
@[simp] theorem one_B(x:Bool):(B x).one=true:=_root_.id rfl
@[simp] theorem one_slit(l:List AV)(n:Nat)(x:Bool):(AV.slit l n x).one=true:=_root_.id rfl
@[simp] theorem one_sref(id:Id)(ver off n z:Nat)(f:Bool):(AV.sref id ver off n z f).one=true:=_root_.id rfl
@[simp] theorem one_nilS:(nilS).one=true:=_root_.id rfl
@[simp] theorem one_clo(f:FuncId)(l:List AV):(AV.clo f l).one=true:=_root_.id rfl
def still1:AV->Bool
 | .sc _ | .slit .. | .plit _ | .un _=>true
 |_=>false
def still:AV->Bool
 | .sc _ | .slit .. | .plit _ | .un _=>true
 | .agg l=>l.all still1
 | .clo _ l=>l.all still1
 |_=>false
@[simp] theorem still1_sc(v:Value):still1 (.sc v)=true:=_root_.id rfl
@[simp] theorem still1_slit(l:List AV)(n:Nat)(x:Bool):still1 (.slit l n x)=true:=_root_.id rfl
@[simp] theorem still_sc(v:Value):still (.sc v)=true:=_root_.id rfl
@[simp] theorem still_slit(l:List AV)(n:Nat)(x:Bool):still (.slit l n x)=true:=_root_.id rfl
@[simp] theorem still_agg(l:List AV):still (.agg l)=l.all still1:=_root_.id rfl
@[simp] theorem still_clo(f:FuncId)(l:List AV):still (.clo f l)=l.all still1:=_root_.id rfl
theorem xv6{a:AV}(objs:Id->Option Ob)(k:Nat)(h:still1 a=true):frz objs (k+1) a=some a:=by
 cases a<;>simp_all [frz,still1]
theorem xtu{f:AV->Option AV}:∀{l:List AV},(∀a∈l,f a=some a)->l.mapM f=some l
 |[],_=>rfl
 |a::l,h=>by
  rw[x188,h a (x17l ..),xtu λb hb=>h b (x172 _ hb)]
  rfl
theorem xuf{a:AV}(objs:Id->Option Ob)(k:Nat)(h:still a=true):frz objs (k+2) a=some a:=by
 cases a with
 |agg l=>
  simp only[still,x16z]at h
  have:l.mapM (frz objs (k+1))=some l:=xtu λb hb=>xv6 objs k (h b hb)
  show(l.mapM (frz objs (k+1))).map AV.agg=_
  rw[this];rfl
 |clo f l=>
  simp only[still,x16z]at h
  have:l.mapM (frz objs (k+1))=some l:=xtu λb hb=>xv6 objs k (h b hb)
  show(l.mapM (frz objs (k+1))).map (AV.clo f)=_
  rw[this];rfl
 |_=>first|(exact xv6 objs (k+1) rfl)|(simp[still]at h)
theorem xxt{a:AV}(objs:Id->Option Ob)(k:Nat)(h:still1 a=true):xpg objs (k+1) a=[]:=by
 cases a<;>simp_all [xpg,still1]
theorem x12s{a:AV}(objs:Id->Option Ob)(k:Nat)(h:still a=true):xpg objs (k+2) a=[]:=by
 cases a with
 |agg l=>
  simp only[still,x16z]at h
  show l.flatMap (xpg objs (k+1))=[]
  rw[x198]
  exact λb hb=>xxt objs k (h b hb)
 |clo f l=>
  simp only[still,x16z]at h
  show l.flatMap (xpg objs (k+1))=[]
  rw[x198]
  exact λb hb=>xxt objs k (h b hb)
 |_=>first|(exact xxt objs (k+1) rfl)|(simp[still]at h)
theorem xw0{l:List AV}(objs:Id->Option Ob)(h:l.all still=true):l.mapM (frz objs deep)=some l:=
 xtu λa ha=>xuf objs 4 (x16z.mp h a ha)
theorem xxu{l:List AV}(objs:Id->Option Ob)(h:l.all still=true):l.flatMap (xpg objs deep)=[]:=by
 rw[x198]
 exact λa ha=>x12s objs 4 (x16z.mp h a ha)
theorem call0{call:xpb}{f:FuncId}{l:List AV}{m m':Mem}{r:AV}(hl:l.all still=true)(h:call [] f l mem0=some (r,m'))(hr:still r=true):xp9 call f l m=some (r,m):=by
 unfold xp9
 rw[xw0 _ hl]
 simp only[h]
 rw[show frz m'.get deep r=some r from xuf _ 4 hr,xxu _ hl]
 rfl
theorem call0_tup{call:xpb}{f:FuncId}{l:List AV}{m m':Mem}{r:List AV}(hl:l.all still=true)(h:call [] f l mem0=some (.tup r,m'))(hr:r.all still=true):xp9 call f l m=some (.tup r,m):=by
 unfold xp9
 rw[xw0 _ hl]
 simp only[h]
 have:frz m'.get deep (.tup r)=some (.tup r):=by
  have h2:r.mapM (frz m'.get 5)=some r:=xtu λa ha=>xuf _ 3 (x16z.mp hr a ha)
  show(r.mapM (frz m'.get 5)).map AV.tup=_
  rw[h2];rfl
 rw[this,xxu _ hl]
 rfl
def Ans(call:xpb)(f:FuncId)(l:List AV)(r:AV):Prop:=∃m',call [] f l mem0=some (r,m')
theorem Ans.call0{call:xpb}{f:FuncId}{l:List AV}{m:Mem}{r:AV}(h:Ans call f l r)(hl:l.all still=true)(hr:still r=true):xp9 call f l m=some (r,m):=
 let⟨_,h⟩:=h;Go.Ix.call0 hl h hr
theorem Ans.call0_tup{call:xpb}{f:FuncId}{l:List AV}{m:Mem}{r:List AV}(h:Ans call f l (.tup r))(hl:l.all still=true)(hr:r.all still=true):xp9 call f l m=some (.tup r,m):=
 let⟨_,h⟩:=h;Go.Ix.call0_tup hl h hr
def Sl{α:Type}(enc:α->List AV)(a:AV)(l:List α):Prop:=(a=nilS/\l=[])\/∃x,a=.slit (l.flatMap enc) l.length x
variable{α:Type}{enc:α->List AV}{z:Nat}{a:AV}{l:List α}
theorem xry(hz:∀x,(enc x).length=z):∀l:List α,(l.flatMap enc).length=l.length*z
 |[]=>by simp
 |x::l=>by simp only[x18h,x191,hz,xry hz l,x17d,x18b];omega
theorem x10m(hz:∀x,(enc x).length=z):∀(l:List α) (k:Nat),(l.flatMap enc).drop (k*z)=(l.drop k).flatMap enc
 |l,0=>by simp
 |[],k+1=>by simp
 |x::l,k+1=>by
  rw[x18h,x18b,x1ah,x19y (by rw[hz];omega),x18x,hz,x1ai,x10m hz l k,List.drop_succ_cons]
theorem x10n{l:List α}{k:Nat}(h:k<l.length):l.drop k=l[k]::l.drop (k+1):=x1aj h
theorem xv7{l r:List α}{x:α}{k:Nat}(h:l.drop k=x::r):∃hk:k<l.length,l[k]=x/\l.drop (k+1)=r:=by
 have hk:k<l.length:=by
  rcases x17m k l.length with h'|h'
  .exact h'
  .rw[x19y h']at h;cases h
 rw[x10n hk]at h
 injection h with he hd
 exact⟨hk,he,hd⟩
theorem Sl.still1(h:Sl enc a l):still1 a=true:=by
 rcases h with ⟨rfl,_⟩|⟨x,rfl⟩<;>rfl
theorem Sl.still(h:Sl enc a l):still a=true:=by
 rcases h with ⟨rfl,_⟩|⟨x,rfl⟩<;>rfl
theorem Sl.clean(h:Sl enc a l):clean a=true:=by
 rcases h with ⟨rfl,_⟩|⟨x,rfl⟩<;>rfl
theorem Sl.clean1(h:Sl enc a l):clean1 a=true:=by
 rcases h with ⟨rfl,_⟩|⟨x,rfl⟩<;>rfl
theorem Sl.cells(h:Sl enc a l):a.cells=[a]:=by
 rcases h with ⟨rfl,_⟩|⟨x,rfl⟩<;>rfl
theorem Sl.one(h:Sl enc a l):a.one=true:=by
 rcases h with ⟨rfl,_⟩|⟨x,rfl⟩<;>rfl
theorem Sl.tX(h:Sl enc a l):tX a=some []:=by
 rcases h with ⟨rfl,_⟩|⟨x,rfl⟩<;>rfl
theorem Sl.lit(l:List α)(x:Bool):Sl enc (.slit (l.flatMap enc) l.length x) l:=Or.inr ⟨x,rfl⟩
theorem Sl.elems(hz:∀x,(enc x).length=z)(h:Sl enc a l)(objs:Id->Option Ob):elems objs z a=some (l.flatMap enc,l.length):=by
 rcases h with ⟨rfl,rfl⟩|⟨x,rfl⟩
 .rfl
 .have h1:=xry hz l
  simp[Ix.elems,h1,x173]
theorem xw1{t e:TypeId}(ht:P.underlying t=some (.slice e)):sLen P t nilS=some (I 0):=by
 have:xpf P (Builtin.len_ #[t] 0 #[Value.slice none 0 0])=some (.int .i64 0):=by
  simp[Builtin.len_,underlying,program,Bind.bind,Sem.bind,xpf,Pure.pure,ht,goInt]
 show(xpf P (Builtin.len_ #[t] 0 #[Value.slice none 0 0])).map xpz=_
 rw[this];rfl
theorem Sl.len{t e:TypeId}(ht:P.underlying t=some (.slice e))(h:Sl enc a l):sLen P t a=some (I l.length):=by
 rcases h with ⟨rfl,rfl⟩|⟨x,rfl⟩
 .exact xw1 ht
 .rfl
theorem Sl.ix(hz:∀x,(enc x).length=z)(h:Sl enc a l){k:Nat}(hk:k<l.length):sIx z a (I k)=some (.plit ((l.drop k).flatMap enc)):=by
 rcases h with ⟨rfl,rfl⟩|⟨x,rfl⟩
 .simp at hk
 .have:(0:Int)<=(k:Int)/\(k:Int)<(l.length:Int):=by omega
  simp[sIx,asI,x10m hz,hk]
@[simp] theorem sFA_ptr(off:Nat)(id:Id)(ver o:Nat):sFA off (.ptr id ver o)=some (.ptr id ver (o+off)):=_root_.id rfl
@[simp] theorem sFA_plit(off:Nat)(cs:List AV):sFA off (.plit cs)=some (.plit (cs.drop off)):=_root_.id rfl
@[simp] theorem ld_cons{m:Mem}(x:AV)(cs:List AV):sLd false 1 (.plit (x::cs)) m=some x:=_root_.id rfl
theorem xw2{m:Mem}{id:Id}{g:Bool}{z off ver:Nat}{cs:List AV}{fz:Bool}(h:m.get id=some (.row cs ver fz)):sLd g z (.ptr id ver off) m=rd g z (cs.drop off):=by
 simp[sLd,h]
@[simp] theorem xtv(g:Bool)(z:Nat)(x:AV)(cs:List AV)(m:Mem):sLd g z (.plit (x::cs)) m=rd g z (x::cs):=_root_.id rfl
theorem xrm{m:Mem}{id:Id}{z off ver:Nat}{cs:List AV}{x:AV}{k:Mem->Option R}(h:m.get id=some (.row cs ver false))(h1:x.cells.length=z)(h2:off+z<=cs.length)(h3:x.cells.all AV.one=true) :
 sSt z (.ptr id ver off) x m k=k (m.set id (.row (xpo cs off x.cells) ver false)):=by
 simp only[sSt,h]
 rw[x16u ⟨trivial,h1,h2,h3⟩]
@[simp] theorem Mem.next_set(m:Mem)(i:Id)(o:Ob):(m.set i o).next=m.next:=_root_.id rfl
@[simp] theorem Mem.next_new(m:Mem)(i:Id)(o:Ob):(m.new i o).next=m.next:=_root_.id rfl
theorem bind_cg{α β:Type}{x y:Option α}{f:α->Option β}(h:x=y):x.bind f=y.bind f:=by rw[h]
theorem cond_cg{α:Type}{x y:Bool}{a b:α}(h:x=y):cond x a b=cond y a b:=by rw[h]
theorem sCond_cg{x y:AV}{a b:Option R}(h:x=y):xpa x a b=xpa y a b:=by rw[h]
attribute [congr] bind_cg cond_cg sCond_cg
theorem xpe{α β:Type}(a:α)(f:α->Option β):(some a).bind f=f a:=_root_.id rfl
theorem xqc{α:Type}(a b:α):cond true a b=a:=_root_.id rfl
theorem xqg{α:Type}(a b:α):cond false a b=b:=_root_.id rfl
attribute [simp high] xpe xqc xqg
attribute [simp ↓ high] xq6 xq8 xpe xqc xqg
@[simp ↓] theorem xug(cs:List AV)(id:Id)(m:Mem)(k:AV->Mem->Option R):xpl cs id m k=k (.ptr id 0 0) (m.new id (.row cs 0 false)):=_root_.id rfl
def stRow(z ver off:Nat)(x:AV):Option Ob->Option Ob
 |some (.row cs v false)=>bif decide (v=ver/\x.cells.length=z/\off+z<=cs.length/\(x.cells.all AV.one)=true)then some (.row (xpo cs off x.cells) v false)else none
 |_=>none
theorem sSt_ptr(z:Nat)(id:Id)(ver off:Nat)(x:AV)(m:Mem)(k:Mem->Option R):sSt z (.ptr id ver off) x m k=(stRow z ver off x (m.get id)).bind λo=>k (m.set id o):=by
 cases h:m.get id with
 |none=>simp only[sSt,h];rfl
 |some o=>
  cases o with
  |map es=>simp only[sSt,h];rfl
  |lp d=>simp only[sSt,h];rfl
  |row cs v f=>
   cases f with
   |true=>simp only[sSt,h];rfl
   |false=>
    simp only[sSt,h,stRow]
    by_cases hc:v=ver/\x.cells.length=z/\off+z<=cs.length/\(x.cells.all AV.one)=true
    .rw[x16u hc,x17y hc];rfl
    .rw[x16t hc,x19z hc];rfl
@[simp ↓] theorem xt7(c:AV)(w:Bool)(x:AV)(m:Mem)(k:AV×Mem->Option R):sGv c w x m k=(bif sW c w then some (x,m)else some (U,m)).bind k:=_root_.id rfl
@[simp ↓] theorem xt8(c:AV)(w:Bool)(x:Option AV)(m:Mem)(k:AV×Mem->Option R):sGo c w x m k=(bif sW c w then x.bind λv=>some (v,m)else some (U,m)).bind k:=_root_.id rfl
@[simp ↓] theorem sGp_eq(c:AV)(w:Bool)(x:Option (AV×Mem))(m:Mem)(k:AV×Mem->Option R):sGp c w x m k=(bif sW c w then x.bind λp=>some (p.1,p.2)else some (U,m)).bind k:=_root_.id rfl
theorem xxv(z ver off:Nat)(x:AV)(cs:List AV)(v:Nat):stRow z ver off x (some (.row cs v false))=bif decide (v=ver/\x.cells.length=z/\off+z<=cs.length/\(x.cells.all AV.one)=true)then some (.row (xpo cs off x.cells) v false)else none:=_root_.id rfl
theorem xxw(x:AV)(id:Id)(m:Mem)(k:AV->Mem->Option R):sBox x id m k=bif x.cells.all AV.one then k (.ptr id 0 0) (m.new id (.row x.cells 0 false))else none:=by
 unfold sBox
 split
 .rename_i e;rw[e];rfl
 .rename_i e;rw[x1a6]at e;rw[e];rfl
def xuh(g:Bool)(z ver off:Nat):Option Ob->Option AV
 |some (.row cs v _)=>bif Nat.beq v ver then rd g z (cs.drop off)else none
 |_=>none
theorem sLd_ptr(g:Bool)(z:Nat)(id:Id)(ver off:Nat)(m:Mem):sLd g z (.ptr id ver off) m=xuh g z ver off (m.get id):=by
 cases h:m.get id with
 |none=>simp only[sLd,h];rfl
 |some o=>
  cases o with
  |map es=>simp only[sLd,h];rfl
  |lp d=>simp only[sLd,h];rfl
  |row cs v f=>
   simp only[sLd,h,xuh]
   by_cases hc:v=ver
   .subst hc;simp
   .rw[x16t hc,show Nat.beq v ver=false from by rw[x17f];intro x;exact hc (x171 x)];rfl
theorem ldRow_row(g:Bool)(z ver off:Nat)(cs:List AV)(v:Nat)(f:Bool):xuh g z ver off (some (.row cs v f))=bif Nat.beq v ver then rd g z (cs.drop off)else none:=_root_.id rfl
theorem rd_t(z:Nat)(cs:List AV):rd true z cs=bif decide (z<=cs.length)then some (.agg (cs.take z))else none:=by
 unfold rd
 by_cases h:z<=cs.length<;>simp[h]
theorem rd_f(z:Nat)(a:AV)(cs:List AV):rd false z (a::cs)=some a:=_root_.id rfl
theorem rd_1(a:AV)(cs:List AV):rd true 1 (a::cs)=some (.agg [a]):=by rw[rd_t,x17d,x17y (by omega)];rfl
theorem rd_2(a b:AV)(cs:List AV):rd true 2 (a::b::cs)=some (.agg [a,b]):=by rw[rd_t];simp only[x17d];rw[x17y (by omega)];rfl
theorem rd_3(a b c:AV)(cs:List AV):rd true 3 (a::b::c::cs)=some (.agg [a,b,c]):=by rw[rd_t];simp only[x17d];rw[x17y (by omega)];rfl
theorem rd_4(a b c d:AV)(cs:List AV):rd true 4 (a::b::c::d::cs)=some (.agg [a,b,c,d]):=by rw[rd_t];simp only[x17d];rw[x17y (by omega)];rfl
theorem stRow_4(ver:Nat)(a b c d a' b' c' d':AV):stRow 4 ver 0 (.agg [a',b',c',d']) (some (.row [a,b,c,d] ver false))=bif[a',b',c',d'].all AV.one then some (.row [a',b',c',d'] ver false)else none:=by
 rw[xxv]
 simp[xpo]
theorem splice_eq(cs:List AV)(off:Nat)(vs:List AV):xpo cs off vs=cs.take off++(vs++cs.drop (off+vs.length)):=_root_.id rfl
attribute [simp high] rd_1 rd_2 rd_3 rd_4 stRow_4
attribute [simp] sLd_ptr ldRow_row xxv rd_t rd_f splice_eq Mem.get_set Mem.get_new xr9
attribute [simp ↓] sSt_ptr xxw
def intE(x:Int):List AV:=[I x]
theorem xqh(x:Int):(intE x).length=1:=_root_.id rfl
theorem Sl.ixI(hz:∀x,(enc x).length=z)(h:Sl enc a l){k:Int}(h0:0<=k)(hk:k<l.length):sIx z a (I k)=some (.plit ((l.drop k.toNat).flatMap enc)):=by
 have:=h.ix hz (k:=k.toNat) (by omega)
 rwa[Int.toNat_of_nonneg h0]at this
def at0(l:List Int)(k:Nat):Int:=l.getD k 0
theorem at0_lt{l:List Int}{k:Nat}(h:k<l.length):at0 l k=l[k]:=by
 unfold at0;rw[x17t,x178 h];rfl
theorem mkM_0(l:List AV):mkM 0 l=bif l.all clean then 2 else 0:=by
 unfold mkM
 cases h:l.all clean<;>simp[h]
theorem mkM_1(l:List AV):mkM 1 l=bif l.all clean then 2 else 0:=by
 unfold mkM
 cases h:l.all clean<;>simp[h]
@[simp] theorem mkM_3(l:List AV):mkM 3 l=1:=_root_.id rfl
@[simp] theorem mkM_4(l:List AV):mkM 4 l=1:=_root_.id rfl
@[simp] theorem clean_sc(v:Value):clean (.sc v)=true:=_root_.id rfl
@[simp] theorem clean_agg(l:List AV):clean (.agg l)=l.all clean1:=_root_.id rfl
@[simp] theorem clean_slit(l:List AV)(n:Nat)(x:Bool):clean (.slit l n x)=true:=_root_.id rfl
@[simp] theorem clean1_sc(v:Value):clean1 (.sc v)=true:=_root_.id rfl
@[simp] theorem clean1_slit(l:List AV)(n:Nat)(x:Bool):clean1 (.slit l n x)=true:=_root_.id rfl
@[simp] theorem ble_2:Nat.ble 1 2=true:=_root_.id rfl
@[simp] theorem ble_1:Nat.ble 1 1=true:=_root_.id rfl
@[simp] theorem cAp_R2(a:AV):cAp none (tR a) 2=true:=by
  unfold tR;split<;>rfl
@[simp] theorem cAp_R1(a:AV):cAp none (tR a) 1=true:=by
  unfold tR;split<;>rfl
attribute [simp] mkM_0 mkM_1
theorem x10o{call:xpb}{f:FuncId}{l:List AV}{m m':Mem}{r r':AV}(hl:l.all still=true)(h:call [] f l mem0=some (r,m'))(hr:frz m'.get deep r=some r'):xp9 call f l m=some (r',m):=by
 unfold xp9
 rw[xw0 _ hl]
 simp only[h,hr]
 rw[xxu _ hl]
 rfl
theorem xv8{objs:Id->Option Ob}{id:Id}{cs:List AV}{ver off n z k:Nat}{f x:Bool}(h:objs id=some (.row cs ver f))(hl:off+n*z<=cs.length)(hs:((cs.drop off).take (n*z)).all still1=true) :
 frz objs (k+2) (.sref id ver off n z x)=some (.slit ((cs.drop off).take (n*z)) n false):=by
 have h2:((cs.drop off).take (n*z)).mapM (frz objs (k+1))=some ((cs.drop off).take (n*z)):=xtu λa ha=>xv6 objs k (x16z.mp hs a ha)
 simp only[frz,h]
 rw[x16u ⟨trivial,hl⟩]
 show((((cs.drop off).take (n*z)).mapM (frz objs (k+1))).map λl=>AV.slit l n false)=_
 rw[h2];rfl
theorem mkLit_nil{z:List AV}{size:Nat}{id:Id}{m:Mem}{k:AV->Mem->Option R}:xpy z [] 0 size id m k=k (.slit [] 0 true) m:=by
 simp[xpy,xqs,xqa]
theorem xt9(he:∀x,(enc x).all still1=true):∀l:List α,(l.flatMap enc).all still1=true
 |[]=>rfl
 |x::l=>by rw[x18h,x1a0,he,xt9 he l];rfl
theorem xw3(x:Int):(intE x).all still1=true:=rfl
attribute [simp ↓] mkLit_nil
theorem xxx{z:AV}{x:AV}{id:Id}{m:Mem}{k:AV->Mem->Option R}(h1:x.cells=[x])(h2:x.one=true)(h3:clean1 x=true):xpy [z] [(0,1,x)] 1 1 id m k=k (.slit [x] 1 true) m:=by
 simp[xpy,xqs,xqa,h1,h2,h3,x1a1]
@[simp ↓] theorem mkLit_I{z:AV}{x:Int}{id:Id}{m:Mem}{k:AV->Mem->Option R}:xpy [z] [(0,1,I x)] 1 1 id m k=k (.slit [I x] 1 true) m:=xxx rfl rfl rfl
def Gr{α:Type}(z:Nat)(enc:α->List AV)(u t:Nat)(m:Mem)(a:AV)(l:List α):Prop:=
 (a=nilS/\l=[])\/∃s ver,a=.sref (u,s,t) ver 0 l.length z true/\m.get (u,s,t)=some (.row (l.flatMap enc) ver false)
theorem Gr.nil{u t:Nat}{m:Mem}:Gr z enc u t m nilS []:=Or.inl ⟨rfl,rfl⟩
theorem Gr.frame{u t:Nat}{m m':Mem}(h:Gr z enc u t m a l)(hm:∀s,m'.get (u,s,t)=m.get (u,s,t)):Gr z enc u t m' a l:=by
 rcases h with h|⟨s,ver,h1,h2⟩
 .exact Or.inl h
 .exact Or.inr ⟨s,ver,h1,by rw[hm];exact h2⟩
theorem Gr.app(hz:∀x,(enc x).length=z)(h0:0<z){u t s0 bytes:Nat}{m:Mem}(hr:xpt (l.length+1) bytes)(h:Gr z enc u t m a l)(x:α) :
 ∃a' m',(∀{R:Type} (k:AV->Mem->Option R),sApp z bytes (u,s0,t) (some (enc x,1)) a m k=k a' m')/\Gr z enc u t m' a' (l++[x])/\m'.next=m.next/\∀j:Id,j.2.2≠t->m'.get j=m.get j:=by
 rcases h with ⟨rfl,rfl⟩|⟨s,ver,rfl,hg⟩
 .refine⟨.sref (u,s0,t) 0 0 1 z true,m.new (u,s0,t) (.row (enc x) 0 false),λk=>?_,Or.inr ⟨s0,0,rfl,by simp⟩,rfl,λj hj=>?_⟩
  .simp only[sApp]
   rw[x16t (by omega),x16u (by simpa using hr)]
  .rw[Mem.get_new,x16t (by rintro rfl;exact hj rfl)]
 .have hl:=xry hz l
  refine⟨.sref (u,s,t) (ver+1) 0 (l.length+1) z true,m.set (u,s,t) (.row (l.flatMap enc++enc x) (ver+1) false),λk=>?_,Or.inr ⟨s,ver+1,by simp,by simp⟩,rfl,λj hj=>?_⟩
  .simp only[sApp,hg]
   rw[x16u ⟨trivial,trivial,by omega,hr⟩,x16t (by omega),x16t (by rw[hl,x18b];omega),x17j,x173 (by omega)]
  .rw[Mem.get_set,x16t (by rintro rfl;exact hj rfl)]
theorem Gr.frz(hz:∀x,(enc x).length=z)(hs:∀x,(enc x).all still1=true){u t:Nat}{m:Mem}(h:Gr z enc u t m a l):∃a',Sl enc a' l/\frz m.get deep a=some a':=by
 rcases h with ⟨rfl,rfl⟩|⟨s,ver,rfl,hg⟩
 .exact⟨nilS,Or.inl ⟨rfl,rfl⟩,rfl⟩
 .have hl:=xry hz l
  refine⟨.slit (l.flatMap enc) l.length false,Sl.lit l false,?_⟩
  have:=xv8 (objs:=m.get) (id:=(u,s,t)) (cs:=l.flatMap enc) (ver:=ver) (off:=0) (n:=l.length) (z:=z) (k:=4) (f:=false) (x:=true) hg (by omega) (by
   rw[x17j,x173 (by omega)];exact xt9 hs l)
  rw[x17j,x173 (by omega)]at this
  exact this
theorem frz_tup{objs:Id->Option Ob}{l:List AV}(h:l.all still=true):Go.Ix.frz objs deep (.tup l)=some (.tup l):=by
 have h2:l.mapM (Go.Ix.frz objs 5)=some l:=xtu λa ha=>xuf _ 3 (x16z.mp h a ha)
 show(l.mapM (Go.Ix.frz objs 5)).map AV.tup=_
 rw[h2];rfl
theorem xsd:NN=18446744073709551616:=rfl
theorem sBin_0{op:BinOp}{t:TypeId}{x y:Operand}{a b r:AV}(h:bin0 P op t x y a b=some r):sBin P op t x y a b=some r:=by unfold sBin;rw[h]
end Go.Ix
