import Derived.Test.YtacloojepepcfaaGreatDoorFxTop
import Derived.Test.YtacloojepepcfaaGreatDoorFxTell
import Derived.Test.YtacloojepepcfaaGreatDoorFxShelf
import Derived.Lib.SmallJoins
import Derived.Lib.Join
import Derived.Test.YtacloojepepcfaaGreatDoorFxCall
import Derived.Test.YtacloojepepcfaaGreatDoorFxOps
set_option linter.unusedSimpArgs false
set_option linter.unusedVariables false
namespace Go.Ix
open Go Go.Proofs
theorem xwn{w w':World}(h:Go.RowKit.Below w.heap.size w w'):Ext (λ_=>True) w w':=
 ⟨h.size,λb hb=>by simp only[World.shape?];rw[h.block b hb],λb _ hb=>h.block b hb,h.os,h.output⟩
theorem xuu{P:Program}{E:Env}{w:World}{st:St}{f:FuncId}{vs:Array Value}{r:AV}(hb:xqh P f)(hS:Sim E w st)(hc:Calls P f vs w λe w'=>∃u,e=.returned u/\Ext (λ_=>True) w w'/\V E.F w' E.η E.ζ.1 r u):xqh P f/\xrf P E w st f vs r st:=by
 refine⟨hb,λcs=>?_⟩
 obtain⟨e,w',fr,⟨u,rfl,hx,hV⟩,h1,h2,h3⟩:=hc cs
 obtain⟨g1,g2⟩:=hS.outside (F':=E.F) hx (λ_ h=>h) (λ_ h=>.inl h)
 exact⟨E,w',u,.inl ⟨hb,fr,h1,h2,h3⟩,hV,g1,g2,x17z _,λid ver h=>.inl ⟨ver,h⟩⟩
theorem x11j{E:Env}{w:World}{a:AV}{vs:Array Value}(h:ArgsV E w [a] vs):∃v,vs=#[v]/\E.V w a v:=by
 obtain⟨h1,h2⟩:=h
 have h1':vs.size=1:=h1
 refine⟨vs[0],?_,h2 0 a vs[0] rfl (x18c (by omega))⟩
 refine Array.ext (by simp[h1']) λi a b=>?_
 have:i=0:=by omega
 subst this
 rfl
theorem argsV_two{E:Env}{w:World}{a b:AV}{vs:Array Value}(h:ArgsV E w [a,b] vs):∃u v,vs=#[u,v]/\E.V w a u/\E.V w b v:=by
 obtain⟨h1,h2⟩:=h
 have h1':vs.size=2:=h1
 refine⟨vs[0],vs[1],?_,h2 0 a vs[0] rfl (x18c (by omega)),h2 1 b vs[1] rfl (x18c (by omega))⟩
 refine Array.ext (by simp[h1']) λi a b=>?_
 have:i=0\/i=1:=by omega
 rcases this with rfl|rfl<;>rfl
theorem ext_grow(w:World)(k:Nat)(os:Array Obj):Ext (λ_=>True) w (Go.Sort.grow (w.drewN k) os):=by
 have hb:∀b,b<w.heap.size->(Go.Sort.grow (w.drewN k) os).heap[b]?=w.heap[b]?:=λb hb=>by
  simp only[Go.Sort.grow,World.drewN]
  rw[x1am hb]
 exact⟨by simp[Go.Sort.grow,World.drewN],λb h=>by simp only[World.shape?];rw[hb b h],λb _ h=>hb b h,rfl,rfl⟩
theorem xyj:∀(k n:Nat),1<=k->n<10 ^ k->digF k n=Lib.decDigits n
 |0,n,h,_=>by omega
 |k+1,n,_,h=>by
  rw[Lib.decDigits]
  unfold digF
  by_cases h1:n<10
  .rw[x17u h1,dif_pos h1]
  .rw[x17t h1,dif_neg h1]
   rw[xyj k (n / 10) (by
    rcases k with _|k
    .simp at h;omega
    .omega) (by rw[Nat.pow_succ]at h;omega)]
theorem decM_itoa(n:Int)(h0:-9223372036854775808<=n)(h1:n<=9223372036854775807):decM n=Lib.itoa n:=by
 unfold decM Lib.itoa
 split
 .rw[xyj 20 _ (by omega) (by omega)]
 .rw[xyj 20 _ (by omega) (by omega)]
theorem x13v{E:Env}{w:World}{st:St}{args:List AV}{vs:Array Value}{r:AV}(hk:xt2 Tryz.prog w)(hS:Sim E w st)(hA:ArgsV E w args vs)(hr:xs1 1 args=some r):xqh Tryz.prog xw/\xrf Tryz.prog E w st xw vs r st:=by
 obtain⟨hk1,hk2⟩:=hk
 unfold xs1 at hr
 split at hr
 .rename_i n _
  split at hr
  .rename_i hn
   cases hr
   obtain⟨v,rfl,hv⟩:=x11j hA
   have:=V_sc hv
   subst this
   refine xuu (xut (by kernel_rfl)) hS (Calls.mono (Tryz.strconv_Itoa n hn.1 hn.2 w (hk1 (by kernel_rfl))) λe w' ⟨he,k,os,hw⟩=>⟨_,he,?_,?_⟩)
   .rw[hw];exact ext_grow _ _ _
   .rw[decM_itoa n hn.1 hn.2];exact .sc _
  .cases hr
 .rename_i h
  cases h
 .cases hr
set_option maxHeartbeats 1000000 in
theorem x13w{E:Env}{w:World}{st:St}{args:List AV}{vs:Array Value}{r:AV}(hk:xt2 Tryz.prog w)(hS:Sim E w st)(hA:ArgsV E w args vs)(hr:xs1 2 args=some r):xqh Tryz.prog x2g/\xrf Tryz.prog E w st x2g vs r st:=by
 obtain⟨hk1,hk2⟩:=hk
 unfold xs1 at hr
 split at hr
 .rename_i h
  cases h
 .rename_i s _
  split at hr
  .rename_i hs
   obtain⟨v,rfl,hv⟩:=x11j hA
   have:=V_sc hv
   subst this
   have hk3:=hk2 (by kernel_rfl)
   have two:∀(w':World) (a b:AV) (u v:Value),V E.F w' E.η E.ζ.1 a u->V E.F w' E.η E.ζ.1 b v->V E.F w' E.η E.ζ.1 (.tup [a,b]) (.tuple #[u,v]):=λw' a b u v h1 h2=>.tup _ _ rfl λi x y hx hy=>by
    match i,hx,hy with
    |0,hx,hy=>cases hx;cases hy;exact h1
    |1,hx,hy=>cases hx;cases hy;exact h2
    |i+2,hx,hy=>simp at hx
   cases hv:Lib.atoiAll s.data.toList with
   |ok v=>
    rw[hv]at hr
    cases hr
    refine xuu (xut (by kernel_rfl)) hS (Calls.mono (Tryz.strconv_Atoi_ok s (by omega) v hv w) λe w' ⟨he,hw⟩=>⟨_,he,?_,two _ _ _ _ _ (.sc _) (.sc _)⟩)
    rcases hw with rfl|⟨t,rfl⟩
    .exact Ext.refl _ _
    .exact xwn (Go.Joins.below_bytesWorld _ _ _ _ (x17z _))
   |range=>
    rw[hv]at hr
    cases hr
    obtain⟨_,x,hx,tp,p,rfl⟩:=hk3
    refine xuu (xut (by kernel_rfl)) hS (Calls.mono (Tryz.strconv_Atoi_range_var s (by omega) hv tp p w hx) λe w' ⟨N,he,_,_,hw⟩=>⟨_,he,xwn hw,two _ _ _ _ _ (.sc _) (.un _ _ ⟨_,_,rfl⟩ ?_)⟩)
    exact⟨rfl,rfl,λb h=>by cases h⟩
   |_=>
    rw[hv]at hr
    cases hr
    obtain⟨⟨x,hx,tp,p,rfl⟩,_⟩:=hk3
    refine xuu (xut (by kernel_rfl)) hS (Calls.mono (Tryz.strconv_Atoi_bad_var s (by omega) (hv.trans (by kernel_rfl)) tp p w hx) λe w' ⟨N,he,_,_,hw⟩=>⟨_,he,xwn hw,two _ _ _ _ _ (.sc _) (.un _ _ ⟨_,_,rfl⟩ ?_)⟩)
    exact⟨rfl,rfl,λb h=>by cases h⟩
  .cases hr
 .cases hr
theorem x11k:∀{cs:List AV} {l:List ByteArray},xta cs=some l->cs=l.map λs=>.sc (.string s)
 |[],l,h=>by simp[xta]at h;subst h;rfl
 |a::cs,l,h=>by
  unfold xta at h
  split at h
  .cases ‹_::_=[]›
  .rename_i s r e
   cases e
   simp only[x17x]at h
   obtain⟨l',h1,rfl⟩:=h
   rw[x11k h1];rfl
  .cases h
theorem xyk(sep:List UInt8):∀l:List (List UInt8),xqd sep l=Lib.join l sep
 |[]=>rfl
 |[x]=>(Lib.join_one x sep).symm
 |x::y::r=>by
  have ih:=xyk sep (y::r)
  show x++(sep++xqd sep (y::r))=_
  rw[ih,Lib.join_cons,Lib.join_cons]
  simp[Lib.joinTail]
theorem x13x{P:Program}{E:Env}{w:World}{st:St}{f:FuncId}{args:List AV}{vs:Array Value}{r:AV}(hb:xqh P f)(hS:Sim E w st)(hA:ArgsV E w args vs)(h:tell5 st.objs args=some r)(hc0:∀(a:Option Addr) (c:Nat) (sep:ByteArray) (w:World),Calls P f #[.slice a 0 c,.string sep] w λe w'=>e=.returned (.string ⟨#[]⟩)/\w'=w)(hc:∀(bk o c:Nat) (xs:List ByteArray) (sep:ByteArray) (w:World),(∀(j:Nat) x,xs[j]?=some x->w.cell? ⟨bk,o+j,none⟩=some (.string x))->bk<w.heap.size->xs.length<=140737488355328->xs.length<=c->(Lib.join (xs.map (·.data.toList)) sep.data.toList).length<=140737488355328 ->
 Calls P f #[.slice (some ⟨bk,o,none⟩) xs.length c,.string sep] w λe w'=>e=.returned (.string ⟨(Lib.join (xs.map (·.data.toList)) sep.data.toList).toArray⟩)/\Go.RowKit.Below w.heap.size w w') :
 xqh P f/\xrf P E w st f vs r st:=by
 unfold tell5 at h
 split at h
 rotate_left
 .cases h
 rename_i a sep
 split at h
 rotate_left
 .cases h
 rename_i cs n hel
 split at h
 rotate_left
 .cases h
 rename_i l hl
 split at h
 rotate_left
 .cases h
 rename_i hcd
 cases h
 obtain⟨u,v,rfl,hV,hV2⟩:=argsV_two hA
 have:=V_sc hV2
 subst this
 have hcs:=x11k hl
 have hz:∀(b:Option Addr) (c:Nat),u=.slice b 0 c->l=[]->xqh P f/\xrf P E w st f #[u,.string sep] (.sc (.string ⟨(xqd sep.data.toList (l.map (·.data.toList))).toArray⟩)) st:=by
  rintro b c rfl rfl
  refine xuu hb hS ((hc0 b c sep w).mono λe w' ⟨he,hw⟩=>⟨_,he,?_,.sc _⟩)
  rw[hw];exact Ext.refl _ _
 have hk:∀(bk o c:Nat),u=.slice (some ⟨bk,o,none⟩) n c->l.length=n->(∀(j:Nat) x,l[j]?=some x->w.cell? ⟨bk,o+j,none⟩=some (.string x))->bk<w.heap.size->n<=c->xqh P f/\xrf P E w st f #[u,.string sep] (.sc (.string ⟨(xqd sep.data.toList (l.map (·.data.toList))).toArray⟩)) st:=by
  rintro bk o c rfl rfl h1 h2 h3
  refine xuu hb hS ((hc bk o c l sep w h1 h2 (by omega) h3 (by rw[<-xyk];omega)).mono λe w' ⟨he,hw⟩=>⟨_,he,xwn hw,?_⟩)
  rw[xyk];exact .sc _
 unfold elems at hel
 split at hel
 .rename_i c
  have e:=V_sc hV
  cases hel
  have:l=[]:=by
   cases l with
   |nil=>rfl
   |cons x r=>simp at hcs
  exact hz _ _ e this
 .rename_i cs' n' x
  split at hel
  rotate_left
  .cases hel
  rename_i hle
  cases hel
  obtain⟨ad,cap,e,hL,hn,-⟩:=xs4 hV
  rw[x195]at hcs hle
  have hln:l.length=n:=by
   have:=congrArg List.length hcs
   simp at this
   omega
  by_cases h0:n=0
  .subst h0
   exact hz _ _ e (x19s.1 hln)
  .have hne:cs'≠[]:=by rintro rfl;simp at hle;omega
   obtain⟨hF,hsp⟩:=hL.2 hne
   refine hk ad.block ad.off cap (by rw[e];congr 2;cases ad;simp at hsp;rw[hsp]) hln (λj y hy=>?_) (hS.fin _ (.inl hF)) hn
   have h1:cs'[j]?=some (.sc (.string y)):=by
    have h2:=congrArg (λq=>q[j]?) hcs
    simp only[x19p,x19x,hy,Option.map_some]at h2
    split at h2
    .exact h2
    .cases h2
   obtain⟨v,hv,hV3,-⟩:=hL.1 j _ h1
   rw[hv,V_sc hV3]
 .rename_i id ver off n' z x
  split at hel
  rotate_left
  .cases hel
  rename_i cs' v fz hob
  split at hel
  rotate_left
  .cases hel
  rename_i hcd2
  obtain⟨rfl,rfl,hle⟩:=hcd2
  cases hel
  rw[x195]at hcs hle
  have hln:l.length=n:=by
   have:=congrArg List.length hcs
   simp at this
   omega
  obtain⟨blk,base,len,ad,cap,hη,e,had,hlen,hn,-⟩:=xqu hV
  by_cases h0:n=0
  .subst h0
   exact hz _ _ e (x19s.1 hln)
  .obtain⟨-,-,arr,tt,k3,k4,k5,-⟩:=xsz hS hob hη
   have had:=had.resolve_right (by omega)
   refine hk blk (base+off) cap (by rw[e,had]) hln (λj y hy=>?_) (xtc k3) hn
   have h1:cs'[off+j]?=some (.sc (.string y)):=by
    have h2:=congrArg (λq=>q[j]?) hcs
    simp only[x19p,x19d,x19x,hy,Option.map_some]at h2
    split at h2
    .exact h2
    .cases h2
   obtain⟨v,hv,hV3,-⟩:=k5 _ _ h1
   rw[xuo k3,x19c,hv,V_sc hV3]
 .cases hel
theorem told_ok:xtz Tryz.prog pol:=by
 intro E w st f args vs r st' hp hk hS hA hr
 unfold tellB at hr
 rcases pol_told f hp with ⟨rfl,e⟩|⟨rfl,e⟩|⟨rfl,e⟩
 .rw[e]at hr
  simp only[show Nat.beq 1 3=false from by rfl,show Nat.ble 4 1=false from by rfl,cond_false,x17x,x17v]at hr
  obtain⟨r0,hr,rfl,rfl⟩:=hr
  exact x13v hk hS hA hr
 .rw[e]at hr
  simp only[show Nat.beq 2 3=false from by rfl,show Nat.ble 4 2=false from by rfl,cond_false,x17x,x17v]at hr
  obtain⟨r0,hr,rfl,rfl⟩:=hr
  exact x13w hk hS hA hr
 .rw[e]at hr
  simp only[show Nat.beq 5 3=false from by rfl,show Nat.ble 4 5=true from by rfl,cond_false,cond_true,x17x,x17v]at hr
  obtain⟨r0,hr,rfl,rfl⟩:=hr
  unfold tellR at hr
  simp only[show Nat.beq 5 4=false from by rfl,cond_false]at hr
  exact x13x (xut (by kernel_rfl)) hS hA hr (λa c sep w=>Tryz.strings_Join_none a c sep w) (λbk o c xs sep w h1 h2 h3 h4 h5=>Tryz.strings_Join bk o c xs sep w h1 h2 h3 h4 h5)
end Go.Ix
namespace Go.Ix
open Go.Proofs
variable{R:Type}{P:Program}{m:Mem}
@[simp] theorem xqv(x y:Int):sAdd (I x) (I y)=some (I (w64 (x+y))):=_root_.id rfl
@[simp] theorem sSub_I(x y:Int):sSub (I x) (I y)=some (I (w64 (x-y))):=_root_.id rfl
@[simp] theorem sMul_I(x y:Int):sMul (I x) (I y)=some (I (w64 (x*y))):=_root_.id rfl
@[simp] theorem xq1(x y:Int):sLt (I x) (I y)=some (B (decide (x<y))):=_root_.id rfl
@[simp] theorem sLe_I(x y:Int):sLe (I x) (I y)=some (B (decide (x<=y))):=_root_.id rfl
@[simp] theorem xsm(x y:Int):sGt (I x) (I y)=some (B (decide (y<x))):=_root_.id rfl
@[simp] theorem sGe_I(x y:Int):sGe (I x) (I y)=some (B (decide (y<=x))):=_root_.id rfl
@[simp] theorem xu4(x y:Int):sEq (I x) (I y)=some (B (decide (x=y))):=_root_.id rfl
@[simp] theorem xro(x y:Int):sNe (I x) (I y)=some (B (!decide (x=y))):=_root_.id rfl
@[simp] theorem sNeg_I(x:Int):sNeg (I x)=some (I (w64 (0-x))):=_root_.id rfl
@[simp] theorem xtj(b:Bool):sNot (B b)=some (B (!b)):=_root_.id rfl
@[simp] theorem sMin_I(x y:Int):sMin (I x) (I y)=some (I (if y<x then y else x)):=_root_.id rfl
@[simp] theorem sMax_I(x y:Int):sMax (I x) (I y)=some (I (if y > x then y else x)):=_root_.id rfl
theorem sQuo_I{x y:Int}(h:y≠0):sQuo (I x) (I y)=some (I (w64 (x.tdiv y))):=by simp[sQuo,h]
theorem sRem_I{x y:Int}(h:y≠0):sRem (I x) (I y)=some (I (x.tmod y)):=by simp[sRem,h]
@[simp] theorem xq5(c:Bool)(a b:AV):xp1 (B c) a b=some (bif c then a else b):=_root_.id rfl
@[simp] theorem xph(a b:Option R):xov (B true) a b=a:=_root_.id rfl
@[simp] theorem xpl(a b:Option R):xov (B false) a b=b:=_root_.id rfl
@[simp] theorem sW_t(b:Bool):sW (B b) true=b:=by cases b<;>rfl
@[simp] theorem sW_f(b:Bool):sW (B b) false=!b:=by cases b<;>rfl
@[simp] theorem sW_U(w:Bool):sW U w=false:=_root_.id rfl
@[simp] theorem xrw(l:List AV)(i:Nat):sExt (.tup l) i=l[i]?:=_root_.id rfl
@[simp] theorem cells_I(x:Int):(I x).cells=[I x]:=_root_.id rfl
@[simp] theorem cells_B(x:Bool):(B x).cells=[B x]:=_root_.id rfl
@[simp] theorem xpz(l:List AV):(AV.agg l).cells=l:=_root_.id rfl
@[simp] theorem cells_slit(l:List AV)(n:Nat)(x:Bool):(AV.slit l n x).cells=[.slit l n x]:=_root_.id rfl
@[simp] theorem cells_sref(id:Id)(ver off n z:Nat)(f:Bool):(AV.sref id ver off n z f).cells=[.sref id ver off n z f]:=_root_.id rfl
@[simp] theorem cells_nilS:(nilS).cells=[nilS]:=_root_.id rfl
@[simp] theorem one_I(x:Int):(I x).one=true:=_root_.id rfl
@[simp] theorem one_B(x:Bool):(B x).one=true:=_root_.id rfl
@[simp] theorem one_slit(l:List AV)(n:Nat)(x:Bool):(AV.slit l n x).one=true:=_root_.id rfl
@[simp] theorem one_sref(id:Id)(ver off n z:Nat)(f:Bool):(AV.sref id ver off n z f).one=true:=_root_.id rfl
@[simp] theorem one_nilS:(nilS).one=true:=_root_.id rfl
@[simp] theorem one_clo(f:FuncId)(l:List AV):(AV.clo f l).one=true:=_root_.id rfl
def still1:AV->Bool
 | .sc _ | .slit .. | .plit _ | .un _=>true
 |_=>false
def still:AV->Bool
 | .sc _ | .slit .. | .plit _ | .un _=>true
 | .agg l=>l.all still1
 | .clo _ l=>l.all still1
 |_=>false
@[simp] theorem still1_sc(v:Value):still1 (.sc v)=true:=_root_.id rfl
@[simp] theorem still1_slit(l:List AV)(n:Nat)(x:Bool):still1 (.slit l n x)=true:=_root_.id rfl
@[simp] theorem still_sc(v:Value):still (.sc v)=true:=_root_.id rfl
@[simp] theorem still_slit(l:List AV)(n:Nat)(x:Bool):still (.slit l n x)=true:=_root_.id rfl
@[simp] theorem still_agg(l:List AV):still (.agg l)=l.all still1:=_root_.id rfl
@[simp] theorem still_clo(f:FuncId)(l:List AV):still (.clo f l)=l.all still1:=_root_.id rfl
theorem xuv{a:AV}(objs:Id->Option Ob)(k:Nat)(h:still1 a=true):frz objs (k+1) a=some a:=by
 cases a<;>simp_all [frz,still1]
theorem xu5{f:AV->Option AV}:∀{l:List AV},(∀a∈l,f a=some a)->l.mapM f=some l
 |[],_=>rfl
 |a::l,h=>by
  rw[x18h,h a (x18a ..),xu5 λb hb=>h b (x183 _ hb)]
  rfl
theorem xu6{a:AV}(objs:Id->Option Ob)(k:Nat)(h:still a=true):frz objs (k+2) a=some a:=by
 cases a with
 |agg l=>
  simp only[still,x181]at h
  have:l.mapM (frz objs (k+1))=some l:=xu5 λb hb=>xuv objs k (h b hb)
  show(l.mapM (frz objs (k+1))).map AV.agg=_
  rw[this];rfl
 |clo f l=>
  simp only[still,x181]at h
  have:l.mapM (frz objs (k+1))=some l:=xu5 λb hb=>xuv objs k (h b hb)
  show(l.mapM (frz objs (k+1))).map (AV.clo f)=_
  rw[this];rfl
 |_=>first|(exact xuv objs (k+1) rfl)|(simp[still]at h)
theorem xwo{a:AV}(objs:Id->Option Ob)(k:Nat)(h:still1 a=true):reach objs (k+1) a=[]:=by
 cases a<;>simp_all [reach,still1]
theorem x13y{a:AV}(objs:Id->Option Ob)(k:Nat)(h:still a=true):reach objs (k+2) a=[]:=by
 cases a with
 |agg l=>
  simp only[still,x181]at h
  show l.flatMap (reach objs (k+1))=[]
  rw[x1a4]
  exact λb hb=>xwo objs k (h b hb)
 |clo f l=>
  simp only[still,x181]at h
  show l.flatMap (reach objs (k+1))=[]
  rw[x1a4]
  exact λb hb=>xwo objs k (h b hb)
 |_=>first|(exact xwo objs (k+1) rfl)|(simp[still]at h)
theorem xwp{l:List AV}(objs:Id->Option Ob)(h:l.all still=true):l.mapM (frz objs deep)=some l:=
 xu5 λa ha=>xu6 objs 4 (x181.mp h a ha)
theorem xyl{l:List AV}(objs:Id->Option Ob)(h:l.all still=true):l.flatMap (reach objs deep)=[]:=by
 rw[x1a4]
 exact λa ha=>x13y objs 4 (x181.mp h a ha)
theorem call0{call:xou}{f:FuncId}{l:List AV}{m m':Mem}{r:AV}(hl:l.all still=true)(h:call [] f l mem0=some (r,m'))(hr:still r=true):xox call f l m=some (r,m):=by
 unfold xox
 rw[xwp _ hl]
 simp only[h]
 rw[show frz m'.get deep r=some r from xu6 _ 4 hr,xyl _ hl]
 rfl
theorem call0_tup{call:xou}{f:FuncId}{l:List AV}{m m':Mem}{r:List AV}(hl:l.all still=true)(h:call [] f l mem0=some (.tup r,m'))(hr:r.all still=true):xox call f l m=some (.tup r,m):=by
 unfold xox
 rw[xwp _ hl]
 simp only[h]
 have:frz m'.get deep (.tup r)=some (.tup r):=by
  have h2:r.mapM (frz m'.get 5)=some r:=xu5 λa ha=>xu6 _ 3 (x181.mp hr a ha)
  show(r.mapM (frz m'.get 5)).map AV.tup=_
  rw[h2];rfl
 rw[this,xyl _ hl]
 rfl
def Ans(call:xou)(f:FuncId)(l:List AV)(r:AV):Prop:=∃m',call [] f l mem0=some (r,m')
theorem Ans.call0{call:xou}{f:FuncId}{l:List AV}{m:Mem}{r:AV}(h:Ans call f l r)(hl:l.all still=true)(hr:still r=true):xox call f l m=some (r,m):=
 let⟨_,h⟩:=h;Go.Ix.call0 hl h hr
theorem Ans.call0_tup{call:xou}{f:FuncId}{l:List AV}{m:Mem}{r:List AV}(h:Ans call f l (.tup r))(hl:l.all still=true)(hr:r.all still=true):xox call f l m=some (.tup r,m):=
 let⟨_,h⟩:=h;Go.Ix.call0_tup hl h hr
def Sl{α:Type}(enc:α->List AV)(a:AV)(l:List α):Prop:=(a=nilS/\l=[])\/∃x,a=.slit (l.flatMap enc) l.length x
variable{α:Type}{enc:α->List AV}{z:Nat}{a:AV}{l:List α}
theorem xrp(hz:∀x,(enc x).length=z):∀l:List α,(l.flatMap enc).length=l.length*z
 |[]=>by simp
 |x::l=>by simp only[x19l,x19b,hz,xrp hz l,x188,x19m];omega
theorem xwq(hz:∀x,(enc x).length=z):∀(l:List α) (k:Nat),(l.flatMap enc).drop (k*z)=(l.drop k).flatMap enc
 |l,0=>by simp
 |[],k+1=>by simp
 |x::l,k+1=>by
  rw[x19l,x19m,x1b8,x1b9 (by rw[hz];omega),x1a5,hz,Nat.add_sub_cancel,xwq hz l k,x19h]
theorem xu7{l:List α}{k:Nat}(h:k<l.length):l.drop k=l[k]::l.drop (k+1):=x1ba h
theorem xrx{l r:List α}{x:α}{k:Nat}(h:l.drop k=x::r):∃hk:k<l.length,l[k]=x/\l.drop (k+1)=r:=by
 have hk:k<l.length:=by
  rcases x18s k l.length with h'|h'
  .exact h'
  .rw[x1b9 h']at h;cases h
 rw[xu7 hk]at h
 injection h with he hd
 exact⟨hk,he,hd⟩
theorem Sl.still1(h:Sl enc a l):still1 a=true:=by
 rcases h with ⟨rfl,_⟩|⟨x,rfl⟩<;>rfl
theorem Sl.still(h:Sl enc a l):still a=true:=by
 rcases h with ⟨rfl,_⟩|⟨x,rfl⟩<;>rfl
theorem Sl.clean(h:Sl enc a l):clean a=true:=by
 rcases h with ⟨rfl,_⟩|⟨x,rfl⟩<;>rfl
theorem Sl.clean1(h:Sl enc a l):clean1 a=true:=by
 rcases h with ⟨rfl,_⟩|⟨x,rfl⟩<;>rfl
theorem Sl.cells(h:Sl enc a l):a.cells=[a]:=by
 rcases h with ⟨rfl,_⟩|⟨x,rfl⟩<;>rfl
theorem Sl.one(h:Sl enc a l):a.one=true:=by
 rcases h with ⟨rfl,_⟩|⟨x,rfl⟩<;>rfl
theorem Sl.tX(h:Sl enc a l):tX a=some []:=by
 rcases h with ⟨rfl,_⟩|⟨x,rfl⟩<;>rfl
theorem Sl.lit(l:List α)(x:Bool):Sl enc (.slit (l.flatMap enc) l.length x) l:=Or.inr ⟨x,rfl⟩
theorem Sl.elems(hz:∀x,(enc x).length=z)(h:Sl enc a l)(objs:Id->Option Ob):elems objs z a=some (l.flatMap enc,l.length):=by
 rcases h with ⟨rfl,rfl⟩|⟨x,rfl⟩
 .rfl
 .have h1:=xrp hz l
  simp[Ix.elems,h1,x182]
theorem xwr{t e:TypeId}(ht:P.underlying t=some (.slice e)):sLen P t nilS=some (I 0):=by
 have:xp2 P (Builtin.len_ #[t] 0 #[Value.slice none 0 0])=some (.int .i64 0):=by
  simp[Builtin.len_,underlying,program,Bind.bind,Sem.bind,xp2,Pure.pure,ht,goInt]
 show(xp2 P (Builtin.len_ #[t] 0 #[Value.slice none 0 0])).map xpm=_
 rw[this];rfl
theorem Sl.len{t e:TypeId}(ht:P.underlying t=some (.slice e))(h:Sl enc a l):sLen P t a=some (I l.length):=by
 rcases h with ⟨rfl,rfl⟩|⟨x,rfl⟩
 .exact xwr ht
 .rfl
theorem Sl.ix(hz:∀x,(enc x).length=z)(h:Sl enc a l){k:Nat}(hk:k<l.length):sIx z a (I k)=some (.plit ((l.drop k).flatMap enc)):=by
 rcases h with ⟨rfl,rfl⟩|⟨x,rfl⟩
 .simp at hk
 .have:(0:Int)<=(k:Int)/\(k:Int)<(l.length:Int):=by omega
  simp[sIx,asI,xwq hz,hk]
theorem xuw{m:Mem}(hz:∀x,(enc x).length=z)(h0:0<z){k:Nat}(hk:k<l.length):sLd true z (.plit ((l.drop k).flatMap enc)) m=some (.agg (enc l[k])):=by
 have h1:=hz l[k]
 rw[xu7 hk,x19l]
 simp only[sLd]
 have hne:(enc l[k]++(l.drop (k+1)).flatMap enc).isEmpty=false:=by
  cases he:enc l[k]with
  |nil=>rw[he]at h1;simp at h1;omega
  |cons=>rfl
 rw[hne]
 simp only[x18i,x18e,rd]
 rw[x17u trivial,x17u (by rw[x19b];omega),x1ar (by omega),x182 (by omega)]
@[simp] theorem xqw(off:Nat)(id:Id)(ver o:Nat):sFA off (.ptr id ver o)=some (.ptr id ver (o+off)):=_root_.id rfl
@[simp] theorem sFA_plit(off:Nat)(cs:List AV):sFA off (.plit cs)=some (.plit (cs.drop off)):=_root_.id rfl
@[simp] theorem ld_cons{m:Mem}(x:AV)(cs:List AV):sLd false 1 (.plit (x::cs)) m=some x:=_root_.id rfl
theorem xqe{m:Mem}{id:Id}{g:Bool}{z off ver:Nat}{cs:List AV}{fz:Bool}(h:m.get id=some (.row cs ver fz)):sLd g z (.ptr id ver off) m=rd g z (cs.drop off):=by
 simp[sLd,h]
@[simp] theorem xws(g:Bool)(z:Nat)(x:AV)(cs:List AV)(m:Mem):sLd g z (.plit (x::cs)) m=rd g z (x::cs):=_root_.id rfl
theorem xq6{m:Mem}{id:Id}{z off ver:Nat}{cs:List AV}{x:AV}{k:Mem->Option R}(h:m.get id=some (.row cs ver false))(h1:x.cells.length=z)(h2:off+z<=cs.length)(h3:x.cells.all AV.one=true) :
 sSt z (.ptr id ver off) x m k=k (m.set id (.row (xp7 cs off x.cells) ver false)):=by
 simp only[sSt,h]
 rw[x17u ⟨trivial,h1,h2,h3⟩]
@[simp] theorem Mem.next_set(m:Mem)(i:Id)(o:Ob):(m.set i o).next=m.next:=_root_.id rfl
@[simp] theorem Mem.next_new(m:Mem)(i:Id)(o:Ob):(m.new i o).next=m.next:=_root_.id rfl
theorem bind_cg{α β:Type}{x y:Option α}{f:α->Option β}(h:x=y):x.bind f=y.bind f:=by rw[h]
theorem cond_cg{α:Type}{x y:Bool}{a b:α}(h:x=y):cond x a b=cond y a b:=by rw[h]
theorem sCond_cg{x y:AV}{a b:Option R}(h:x=y):xov x a b=xov y a b:=by rw[h]
attribute [congr] bind_cg cond_cg sCond_cg
theorem xoy{α β:Type}(a:α)(f:α->Option β):(some a).bind f=f a:=_root_.id rfl
theorem xpf{α:Type}(a b:α):cond true a b=a:=_root_.id rfl
theorem xqa{α:Type}(a b:α):cond false a b=b:=_root_.id rfl
attribute [simp high] xoy xpf xqa
attribute [simp ↓ high] xph xpl xoy xpf xqa
@[simp ↓] theorem xrj(cs:List AV)(id:Id)(m:Mem)(k:AV->Mem->Option R):xp8 cs id m k=k (.ptr id 0 0) (m.new id (.row cs 0 false)):=_root_.id rfl
def xrq(z ver off:Nat)(x:AV):Option Ob->Option Ob
 |some (.row cs v false)=>bif decide (v=ver/\x.cells.length=z/\off+z<=cs.length/\(x.cells.all AV.one)=true)then some (.row (xp7 cs off x.cells) v false)else none
 |_=>none
theorem xs8(z:Nat)(id:Id)(ver off:Nat)(x:AV)(m:Mem)(k:Mem->Option R):sSt z (.ptr id ver off) x m k=(xrq z ver off x (m.get id)).bind λo=>k (m.set id o):=by
 cases h:m.get id with
 |none=>simp only[sSt,h];rfl
 |some o=>
  cases o with
  |map es=>simp only[sSt,h];rfl
  |lp d=>simp only[sSt,h];rfl
  |row cs v f=>
   cases f with
   |true=>simp only[sSt,h];rfl
   |false=>
    simp only[sSt,h,xrq]
    by_cases hc:v=ver/\x.cells.length=z/\off+z<=cs.length/\(x.cells.all AV.one)=true
    .rw[x17u hc,x190 hc];rfl
    .rw[x17t hc,x1bs hc];rfl
@[simp ↓] theorem xt3(c:AV)(w:Bool)(x:AV)(m:Mem)(k:AV×Mem->Option R):sGv c w x m k=(bif sW c w then some (x,m)else some (U,m)).bind k:=_root_.id rfl
@[simp ↓] theorem xt4(c:AV)(w:Bool)(x:Option AV)(m:Mem)(k:AV×Mem->Option R):sGo c w x m k=(bif sW c w then x.bind λv=>some (v,m)else some (U,m)).bind k:=_root_.id rfl
@[simp ↓] theorem xwt(c:AV)(w:Bool)(x:Option (AV×Mem))(m:Mem)(k:AV×Mem->Option R):sGp c w x m k=(bif sW c w then x.bind λp=>some (p.1,p.2)else some (U,m)).bind k:=_root_.id rfl
theorem xvo(z ver off:Nat)(x:AV)(cs:List AV)(v:Nat):xrq z ver off x (some (.row cs v false))=bif decide (v=ver/\x.cells.length=z/\off+z<=cs.length/\(x.cells.all AV.one)=true)then some (.row (xp7 cs off x.cells) v false)else none:=_root_.id rfl
theorem xtk(x:AV)(id:Id)(m:Mem)(k:AV->Mem->Option R):sBox x id m k=bif x.cells.all AV.one then k (.ptr id 0 0) (m.new id (.row x.cells 0 false))else none:=by
 unfold sBox
 split
 .rename_i e;rw[e];rfl
 .rename_i e;rw[x1bf]at e;rw[e];rfl
def xu8(g:Bool)(z ver off:Nat):Option Ob->Option AV
 |some (.row cs v _)=>bif Nat.beq v ver then rd g z (cs.drop off)else none
 |_=>none
theorem xqt(g:Bool)(z:Nat)(id:Id)(ver off:Nat)(m:Mem):sLd g z (.ptr id ver off) m=xu8 g z ver off (m.get id):=by
 cases h:m.get id with
 |none=>simp only[sLd,h];rfl
 |some o=>
  cases o with
  |map es=>simp only[sLd,h];rfl
  |lp d=>simp only[sLd,h];rfl
  |row cs v f=>
   simp only[sLd,h,xu8]
   by_cases hc:v=ver
   .subst hc;simp
   .rw[x17t hc,show Nat.beq v ver=false from by rw[x18l];intro x;exact hc (x189 x)];rfl
theorem xqx(g:Bool)(z ver off:Nat)(cs:List AV)(v:Nat)(f:Bool):xu8 g z ver off (some (.row cs v f))=bif Nat.beq v ver then rd g z (cs.drop off)else none:=_root_.id rfl
theorem rd_t(z:Nat)(cs:List AV):rd true z cs=bif decide (z<=cs.length)then some (.agg (cs.take z))else none:=by
 unfold rd
 by_cases h:z<=cs.length<;>simp[h]
theorem rd_f(z:Nat)(a:AV)(cs:List AV):rd false z (a::cs)=some a:=_root_.id rfl
theorem rd_1(a:AV)(cs:List AV):rd true 1 (a::cs)=some (.agg [a]):=by rw[rd_t,x188,x190 (by omega)];rfl
theorem rd_2(a b:AV)(cs:List AV):rd true 2 (a::b::cs)=some (.agg [a,b]):=by rw[rd_t];simp only[x188];rw[x190 (by omega)];rfl
theorem rd_3(a b c:AV)(cs:List AV):rd true 3 (a::b::c::cs)=some (.agg [a,b,c]):=by rw[rd_t];simp only[x188];rw[x190 (by omega)];rfl
theorem rd_4(a b c d:AV)(cs:List AV):rd true 4 (a::b::c::d::cs)=some (.agg [a,b,c,d]):=by rw[rd_t];simp only[x188];rw[x190 (by omega)];rfl
theorem xu9(ver:Nat)(a x:AV):xrq 1 ver 0 x (some (.row [a] ver false))=bif decide (x.cells.length=1/\(x.cells.all AV.one)=true)then some (.row x.cells ver false)else none:=by
 rw[xvo]
 by_cases h:x.cells.length=1<;>simp[h,xp7]
theorem stRow_4(ver:Nat)(a b c d a' b' c' d':AV):xrq 4 ver 0 (.agg [a',b',c',d']) (some (.row [a,b,c,d] ver false))=bif[a',b',c',d'].all AV.one then some (.row [a',b',c',d'] ver false)else none:=by
 rw[xvo]
 simp[xp7]
theorem splice_eq(cs:List AV)(off:Nat)(vs:List AV):xp7 cs off vs=cs.take off++(vs++cs.drop (off+vs.length)):=_root_.id rfl
attribute [simp high] rd_1 rd_2 rd_3 rd_4 stRow_4
attribute [simp] xqt xqx xvo rd_t rd_f splice_eq Mem.get_set Mem.get_new xq4
attribute [simp ↓] xs8 xtk
def intE(x:Int):List AV:=[I x]
theorem xt5(x:Int):(intE x).length=1:=_root_.id rfl
theorem Sl.ixI(hz:∀x,(enc x).length=z)(h:Sl enc a l){k:Int}(h0:0<=k)(hk:k<l.length):sIx z a (I k)=some (.plit ((l.drop k.toNat).flatMap enc)):=by
 have:=h.ix hz (k:=k.toNat) (by omega)
 rwa[Int.toNat_of_nonneg h0]at this
def at0(l:List Int)(k:Nat):Int:=l.getD k 0
theorem xs9{l:List Int}{k:Nat}(h:k<l.length):at0 l k=l[k]:=by
 unfold at0;rw[x18r,x18d h];rfl
theorem ld_int{m:Mem}{l:List Int}{k:Nat}(hk:k<l.length):sLd false 1 (.plit ((l.drop k).flatMap intE)) m=some (I (at0 l k)):=by
 rw[xu7 hk,x19l,xs9 hk]
 rfl
theorem mkM_0(l:List AV):mkM 0 l=bif l.all clean then 2 else 0:=by
 unfold mkM
 cases h:l.all clean<;>simp[h]
theorem mkM_1(l:List AV):mkM 1 l=bif l.all clean then 2 else 0:=by
 unfold mkM
 cases h:l.all clean<;>simp[h]
@[simp] theorem mkM_3(l:List AV):mkM 3 l=1:=_root_.id rfl
@[simp] theorem mkM_4(l:List AV):mkM 4 l=1:=_root_.id rfl
@[simp] theorem clean_sc(v:Value):clean (.sc v)=true:=_root_.id rfl
@[simp] theorem clean_agg(l:List AV):clean (.agg l)=l.all clean1:=_root_.id rfl
@[simp] theorem clean_slit(l:List AV)(n:Nat)(x:Bool):clean (.slit l n x)=true:=_root_.id rfl
@[simp] theorem clean1_sc(v:Value):clean1 (.sc v)=true:=_root_.id rfl
@[simp] theorem clean1_slit(l:List AV)(n:Nat)(x:Bool):clean1 (.slit l n x)=true:=_root_.id rfl
@[simp] theorem ble_2:Nat.ble 1 2=true:=_root_.id rfl
@[simp] theorem ble_1:Nat.ble 1 1=true:=_root_.id rfl
@[simp] theorem cAp_R2(a:AV):cAp none (tR a) 2=true:=by
  unfold tR;split<;>rfl
@[simp] theorem cAp_R1(a:AV):cAp none (tR a) 1=true:=by
  unfold tR;split<;>rfl
attribute [simp] mkM_0 mkM_1
theorem xwu{call:xou}{f:FuncId}{l:List AV}{m m':Mem}{r r':AV}(hl:l.all still=true)(h:call [] f l mem0=some (r,m'))(hr:frz m'.get deep r=some r'):xox call f l m=some (r',m):=by
 unfold xox
 rw[xwp _ hl]
 simp only[h,hr]
 rw[xyl _ hl]
 rfl
theorem xsn{objs:Id->Option Ob}{id:Id}{cs:List AV}{ver off n z k:Nat}{f x:Bool}(h:objs id=some (.row cs ver f))(hl:off+n*z<=cs.length)(hs:((cs.drop off).take (n*z)).all still1=true) :
 frz objs (k+2) (.sref id ver off n z x)=some (.slit ((cs.drop off).take (n*z)) n false):=by
 have h2:((cs.drop off).take (n*z)).mapM (frz objs (k+1))=some ((cs.drop off).take (n*z)):=xu5 λa ha=>xuv objs k (x181.mp hs a ha)
 simp only[frz,h]
 rw[x17u ⟨trivial,hl⟩]
 show((((cs.drop off).take (n*z)).mapM (frz objs (k+1))).map λl=>AV.slit l n false)=_
 rw[h2];rfl
theorem frz_agg2{objs:Id->Option Ob}{a b b':AV}{k:Nat}(ha:still1 a=true)(hb:frz objs (k+1) b=some b'):frz objs (k+2) (.agg [a,b])=some (.agg [a,b']):=by
 show([a,b].mapM (frz objs (k+1))).map AV.agg=_
 simp only[x18h,x196,xuv objs k ha,hb]
 rfl
theorem x11l{size bytes:Nat}{id:Id}{src:List AV}{q:Nat}{m:Mem}{k:AV->Mem->Option R}(h:xpc q bytes) :
 sApp size bytes id (some (src,q)) (.slit [] 0 true) m k=bif decide (q=0)then k (.slit [] 0 true) m else k (.sref id 0 0 q size true) (m.new id (.row src 0 false)):=by
 simp only[sApp,x1a0,x187,List.take_nil,x1a5]
 rw[x17u (x1b1 _)]
 by_cases hq:q=0
 .rw[x17u hq,x190 hq];rfl
 .rw[x17t hq,x17u h,x1bs hq];rfl
theorem mkLit_nil{z:List AV}{size:Nat}{id:Id}{m:Mem}{k:AV->Mem->Option R}:xpj z [] 0 size id m k=k (.slit [] 0 true) m:=by
 simp[xpj,xrc,xpw]
theorem xr9(he:∀x,(enc x).all still1=true):∀l:List α,(l.flatMap enc).all still1=true
 |[]=>rfl
 |x::l=>by rw[x19l,x1bb,he,xr9 he l];rfl
theorem xua(x:Int):(intE x).all still1=true:=rfl
attribute [simp ↓] mkLit_nil
theorem xym{z:AV}{x:AV}{id:Id}{m:Mem}{k:AV->Mem->Option R}(h1:x.cells=[x])(h2:x.one=true)(h3:clean1 x=true):xpj [z] [(0,1,x)] 1 1 id m k=k (.slit [x] 1 true) m:=by
 simp[xpj,xrc,xpw,h1,h2,h3,x1ah]
@[simp ↓] theorem xub{z:AV}{x:Int}{id:Id}{m:Mem}{k:AV->Mem->Option R}:xpj [z] [(0,1,I x)] 1 1 id m k=k (.slit [I x] 1 true) m:=xym rfl rfl rfl
def Gr{α:Type}(z:Nat)(enc:α->List AV)(u t:Nat)(m:Mem)(a:AV)(l:List α):Prop:=
 (a=nilS/\l=[])\/∃s ver,a=.sref (u,s,t) ver 0 l.length z true/\m.get (u,s,t)=some (.row (l.flatMap enc) ver false)
theorem Gr.nil{u t:Nat}{m:Mem}:Gr z enc u t m nilS []:=Or.inl ⟨rfl,rfl⟩
theorem Gr.frame{u t:Nat}{m m':Mem}(h:Gr z enc u t m a l)(hm:∀s,m'.get (u,s,t)=m.get (u,s,t)):Gr z enc u t m' a l:=by
 rcases h with h|⟨s,ver,h1,h2⟩
 .exact Or.inl h
 .exact Or.inr ⟨s,ver,h1,by rw[hm];exact h2⟩
theorem Gr.app(hz:∀x,(enc x).length=z)(h0:0<z){u t s0 bytes:Nat}{m:Mem}(hr:xpc (l.length+1) bytes)(h:Gr z enc u t m a l)(x:α) :
 ∃a' m',(∀{R:Type} (k:AV->Mem->Option R),sApp z bytes (u,s0,t) (some (enc x,1)) a m k=k a' m')/\Gr z enc u t m' a' (l++[x])/\m'.next=m.next/\∀j:Id,j.2.2≠t->m'.get j=m.get j:=by
 rcases h with ⟨rfl,rfl⟩|⟨s,ver,rfl,hg⟩
 .refine⟨.sref (u,s0,t) 0 0 1 z true,m.new (u,s0,t) (.row (enc x) 0 false),λk=>?_,Or.inr ⟨s0,0,rfl,by simp⟩,rfl,λj hj=>?_⟩
  .simp only[sApp]
   rw[x17t (by omega),x17u (by simpa using hr)]
  .rw[Mem.get_new,x17t (by rintro rfl;exact hj rfl)]
 .have hl:=xrp hz l
  refine⟨.sref (u,s,t) (ver+1) 0 (l.length+1) z true,m.set (u,s,t) (.row (l.flatMap enc++enc x) (ver+1) false),λk=>?_,Or.inr ⟨s,ver+1,by simp,by simp⟩,rfl,λj hj=>?_⟩
  .simp only[sApp,hg]
   rw[x17u ⟨trivial,trivial,by omega,hr⟩,x17t (by omega),x17t (by rw[hl,x19m];omega),x180,x182 (by omega)]
  .rw[Mem.get_set,x17t (by rintro rfl;exact hj rfl)]
theorem Gr.frz(hz:∀x,(enc x).length=z)(hs:∀x,(enc x).all still1=true){u t:Nat}{m:Mem}(h:Gr z enc u t m a l):∃a',Sl enc a' l/\frz m.get deep a=some a':=by
 rcases h with ⟨rfl,rfl⟩|⟨s,ver,rfl,hg⟩
 .exact⟨nilS,Or.inl ⟨rfl,rfl⟩,rfl⟩
 .have hl:=xrp hz l
  refine⟨.slit (l.flatMap enc) l.length false,Sl.lit l false,?_⟩
  have:=xsn (objs:=m.get) (id:=(u,s,t)) (cs:=l.flatMap enc) (ver:=ver) (off:=0) (n:=l.length) (z:=z) (k:=4) (f:=false) (x:=true) hg (by omega) (by
   rw[x180,x182 (by omega)];exact xr9 hs l)
  rw[x180,x182 (by omega)]at this
  exact this
theorem call0_any{call:xou}{f:FuncId}{l l':List AV}{m m':Mem}{r r':AV}(hl:l.mapM (Go.Ix.frz m.get deep)=some l')(h:call [] f l' mem0=some (r,m'))(hr:Go.Ix.frz m'.get deep r=some r'):∃m2:Mem,m2.next=m.next/\xox call f l m=some (r',m2):=by
 refine⟨⟨xrd (l.flatMap (reach m.get deep)) m.hp,m.next⟩,rfl,?_⟩
 unfold xox
 rw[hl]
 simp only[h,hr]
 rfl
theorem frz_tup{objs:Id->Option Ob}{l:List AV}(h:l.all still=true):Go.Ix.frz objs deep (.tup l)=some (.tup l):=by
 have h2:l.mapM (Go.Ix.frz objs 5)=some l:=xu5 λa ha=>xu6 _ 3 (x181.mp h a ha)
 show(l.mapM (Go.Ix.frz objs 5)).map AV.tup=_
 rw[h2];rfl
theorem xq7:NN=18446744073709551616:=rfl
theorem sBin_0{op:BinOp}{t:TypeId}{x y:Operand}{a b r:AV}(h:bin0 P op t x y a b=some r):sBin P op t x y a b=some r:=by unfold sBin;rw[h]
end Go.Ix
