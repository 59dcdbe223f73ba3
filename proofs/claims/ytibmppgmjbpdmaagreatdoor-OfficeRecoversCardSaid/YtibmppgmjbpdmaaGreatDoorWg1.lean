import Derived.Test.YtibmppgmjbpdmaaGreatDoorWg0
import Derived.Test.YtibmppgmjbpdmaaGreatDoorFxCall
import Derived.Test.YtibmppgmjbpdmaaGreatDoorFxOps
namespace Go.Ix
open Go Go.Proofs
theorem told_w{E:Env}{w:World}{st:St}{args:List AV}{vs:Array Value}{p:AV×Id×Ob}(hS:Sim E w st)(hA:ArgsV E w args vs)(h:x189 xe x1 st.objs args=some p) :
 x161 Tryz.prog x3f/\x16f Tryz.prog E w st x3f vs p.1 {st with objs:=updo st.objs p.2.1 (some p.2.2)}:=
 x1iu (x19r (by kernel_rfl)) hS hA h λb q v l s w h1 h2 h3 h4=>bld_write (P:=Tryz.prog) (ρ:=Tryz.laysB_ren) Tryz.laysB166 Tryz.Builder_Extra_B b q v l s w h1 h2 h3 h4
theorem told_s{E:Env}{w:World}{st:St}{args:List AV}{vs:Array Value}{r:AV}(hS:Sim E w st)(hA:ArgsV E w args vs)(h:x188 xe x1 st.objs args=some r) :
 x161 Tryz.prog x3e/\x16f Tryz.prog E w st x3e vs r {st with objs:=λ_=>none}:=
 x1iv (x19r (by kernel_rfl)) hS hA h λb q v l w h1 h2=>bld_text (P:=Tryz.prog) (ρ:=Tryz.laysB_ren) Tryz.laysB169 Tryz.Builder_Extra_B b q v l w h1 h2
theorem tellB_w{k t e:Nat}{args:List AV}{st:St}(h1:Nat.beq k 3=false)(h2:Nat.ble 16 k=true)(h3:Nat.beq (k % 2) 0=false)(h4:k / 2000=t)(h5:k / 2 % 1000=e) :
 x18a k args st=(x189 t e st.objs args).map λp=>(p.1,{st with objs:=updo st.objs p.2.1 (some p.2.2)}):=by
 subst h4 h5
 unfold x18a
 rw[h1,h2,h3];rfl
theorem tellB_s{k t e:Nat}{args:List AV}{st:St}(h1:Nat.beq k 3=false)(h2:Nat.ble 16 k=true)(h3:Nat.beq (k % 2) 0=true)(h4:k / 2000=t)(h5:k / 2 % 1000=e) :
 x18a k args st=(x188 t e st.objs args).map λv=>(v,{st with objs:=λ_=>none}):=by
 subst h4 h5
 unfold x18a
 rw[h1,h2,h3];rfl
theorem told_ok:x19l Tryz.prog pol:=by
 intro E w st f args vs r st' hp hk hS hA hr
 rcases pol_told f hp with ⟨rfl,e⟩|⟨rfl,e⟩|⟨rfl,e⟩|⟨rfl,e⟩
 .rw[e]at hr
  unfold x18a at hr
  simp only[show Nat.beq 1 3=false from by rfl,show Nat.ble 16 1=false from by rfl,show Nat.ble 4 1=false from by rfl,cond_false,x1p3,x1p1]at hr
  obtain⟨r0,hr,rfl,rfl⟩:=hr
  exact x1is hk hS hA hr
 .rw[e]at hr
  unfold x18a at hr
  simp only[show Nat.beq 2 3=false from by rfl,show Nat.ble 16 2=false from by rfl,show Nat.ble 4 2=false from by rfl,cond_false,x1p3,x1p1]at hr
  obtain⟨r0,hr,rfl,rfl⟩:=hr
  exact x1it hk hS hA hr
 .rw[e,tellB_s (t:=xe) (e:=x1) rfl rfl rfl rfl rfl,x1p3]at hr
  obtain⟨r0,h1,h2⟩:=hr
  cases h2
  exact told_s hS hA h1
 .rw[e,tellB_w (t:=xe) (e:=x1) rfl rfl rfl rfl rfl,x1p3]at hr
  obtain⟨p,h1,h2⟩:=hr
  cases h2
  exact told_w hS hA h1
end Go.Ix
set_option linter.unusedSimpArgs false
namespace Go.Ix
open Go.Proofs
variable{R:Type}{P:Program}{m:Mem}
@[simp] theorem x17f(x y:Int):sAdd (I x) (I y)=some (I (w64 (x+y))):=_root_.id rfl
@[simp] theorem sSub_I(x y:Int):sSub (I x) (I y)=some (I (w64 (x-y))):=_root_.id rfl
@[simp] theorem sMul_I(x y:Int):sMul (I x) (I y)=some (I (w64 (x*y))):=_root_.id rfl
@[simp] theorem x16y(x y:Int):sLt (I x) (I y)=some (B (decide (x<y))):=_root_.id rfl
@[simp] theorem sLe_I(x y:Int):sLe (I x) (I y)=some (B (decide (x<=y))):=_root_.id rfl
@[simp] theorem x17g(x y:Int):sGt (I x) (I y)=some (B (decide (y<x))):=_root_.id rfl
@[simp] theorem sGe_I(x y:Int):sGe (I x) (I y)=some (B (decide (y<=x))):=_root_.id rfl
@[simp] theorem x1a8(x y:Int):sEq (I x) (I y)=some (B (decide (x=y))):=_root_.id rfl
@[simp] theorem sNe_I(x y:Int):sNe (I x) (I y)=some (B (!decide (x=y))):=_root_.id rfl
@[simp] theorem sNeg_I(x:Int):sNeg (I x)=some (I (w64 (0-x))):=_root_.id rfl
@[simp] theorem x16k(b:Bool):sNot (B b)=some (B (!b)):=_root_.id rfl
@[simp] theorem sMin_I(x y:Int):sMin (I x) (I y)=some (I (if y<x then y else x)):=_root_.id rfl
@[simp] theorem sMax_I(x y:Int):sMax (I x) (I y)=some (I (if y > x then y else x)):=_root_.id rfl
theorem sRem_I{x y:Int}(h:y≠0):sRem (I x) (I y)=some (I (x.tmod y)):=by simp[sRem,h]
@[simp] theorem x15y(c:Bool)(a b:AV):x14s (B c) a b=some (bif c then a else b):=_root_.id rfl
@[simp] theorem x15f(a b:Option R):x14o (B true) a b=a:=_root_.id rfl
@[simp] theorem x15k(a b:Option R):x14o (B false) a b=b:=_root_.id rfl
@[simp] theorem sW_t(b:Bool):sW (B b) true=b:=by cases b<;>rfl
@[simp] theorem sW_f(b:Bool):sW (B b) false=!b:=by cases b<;>rfl
@[simp] theorem sW_U(w:Bool):sW U w=false:=_root_.id rfl
@[simp] theorem x1a9(l:List AV)(i:Nat):sExt (.tup l) i=l[i]?:=_root_.id rfl
@[simp] theorem cells_I(x:Int):(I x).cells=[I x]:=_root_.id rfl
@[simp] theorem cells_B(x:Bool):(B x).cells=[B x]:=_root_.id rfl
@[simp] theorem cells_agg(l:List AV):(AV.agg l).cells=l:=_root_.id rfl
@[simp] theorem cells_slit(l:List AV)(n:Nat)(x:Bool):(AV.slit l n x).cells=[.slit l n x]:=_root_.id rfl
@[simp] theorem cells_sref(id:Id)(ver off n z:Nat)(f:Bool):(AV.sref id ver off n z f).cells=[.sref id ver off n z f]:=_root_.id rfl
@[simp] theorem cells_nilS:(nilS).cells=[nilS]:=_root_.id rfl
@[simp] theorem one_I(x:Int):(I x).one=true:=_root_.id rfl
@[simp] theorem one_B(x:Bool):(B x).one=true:=_root_.id rfl
@[simp] theorem one_slit(l:List AV)(n:Nat)(x:Bool):(AV.slit l n x).one=true:=_root_.id rfl
@[simp] theorem one_sref(id:Id)(ver off n z:Nat)(f:Bool):(AV.sref id ver off n z f).one=true:=_root_.id rfl
@[simp] theorem one_nilS:(nilS).one=true:=_root_.id rfl
@[simp] theorem one_clo(f:FuncId)(l:List AV):(AV.clo f l).one=true:=_root_.id rfl
def still1:AV->Bool
 | .sc _ | .slit .. | .plit _ | .un _=>true
 |_=>false
def still:AV->Bool
 | .sc _ | .slit .. | .plit _ | .un _=>true
 | .agg l=>l.all still1
 | .clo _ l=>l.all still1
 |_=>false
@[simp] theorem still1_sc(v:Value):still1 (.sc v)=true:=_root_.id rfl
@[simp] theorem still1_slit(l:List AV)(n:Nat)(x:Bool):still1 (.slit l n x)=true:=_root_.id rfl
@[simp] theorem still_sc(v:Value):still (.sc v)=true:=_root_.id rfl
@[simp] theorem still_slit(l:List AV)(n:Nat)(x:Bool):still (.slit l n x)=true:=_root_.id rfl
@[simp] theorem still_agg(l:List AV):still (.agg l)=l.all still1:=_root_.id rfl
@[simp] theorem still_clo(f:FuncId)(l:List AV):still (.clo f l)=l.all still1:=_root_.id rfl
theorem x1b1{a:AV}(objs:Id->Option Ob)(k:Nat)(h:still1 a=true):frz objs (k+1) a=some a:=by
 cases a<;>simp_all [frz,still1]
theorem x19s{f:AV->Option AV}:∀{l:List AV},(∀a∈l,f a=some a)->l.mapM f=some l
 |[],_=>rfl
 |a::l,h=>by
  rw[x1qr,h a (x1pp ..),x19s λb hb=>h b (x1p7 _ hb)]
  rfl
theorem x194{a:AV}(objs:Id->Option Ob)(k:Nat)(h:still a=true):frz objs (k+2) a=some a:=by
 cases a with
 |agg l=>
  simp only[still,x1p5]at h
  have:l.mapM (frz objs (k+1))=some l:=x19s λb hb=>x1b1 objs k (h b hb)
  show(l.mapM (frz objs (k+1))).map AV.agg=_
  rw[this];rfl
 |clo f l=>
  simp only[still,x1p5]at h
  have:l.mapM (frz objs (k+1))=some l:=x19s λb hb=>x1b1 objs k (h b hb)
  show(l.mapM (frz objs (k+1))).map (AV.clo f)=_
  rw[this];rfl
 |_=>first|(exact x1b1 objs (k+1) rfl)|(simp[still]at h)
theorem x1dn{a:AV}(objs:Id->Option Ob)(k:Nat)(h:still1 a=true):x14y objs (k+1) a=[]:=by
 cases a<;>simp_all [x14y,still1]
theorem x1iw{a:AV}(objs:Id->Option Ob)(k:Nat)(h:still a=true):x14y objs (k+2) a=[]:=by
 cases a with
 |agg l=>
  simp only[still,x1p5]at h
  show l.flatMap (x14y objs (k+1))=[]
  rw[x1rk]
  exact λb hb=>x1dn objs k (h b hb)
 |clo f l=>
  simp only[still,x1p5]at h
  show l.flatMap (x14y objs (k+1))=[]
  rw[x1rk]
  exact λb hb=>x1dn objs k (h b hb)
 |_=>first|(exact x1dn objs (k+1) rfl)|(simp[still]at h)
theorem x1do{l:List AV}(objs:Id->Option Ob)(h:l.all still=true):l.mapM (frz objs deep)=some l:=
 x19s λa ha=>x194 objs 4 (x1p5.mp h a ha)
theorem x1dp{l:List AV}(objs:Id->Option Ob)(h:l.all still=true):l.flatMap (x14y objs deep)=[]:=by
 rw[x1rk]
 exact λa ha=>x1iw objs 4 (x1p5.mp h a ha)
theorem call0{call:x14p}{f:FuncId}{l:List AV}{m m':Mem}{r:AV}(hl:l.all still=true)(h:call [] f l mem0=some (r,m'))(hr:still r=true):x14q call f l m=some (r,m):=by
 unfold x14q
 rw[x1do _ hl]
 simp only[h]
 rw[show frz m'.get deep r=some r from x194 _ 4 hr,x1dp _ hl]
 rfl
theorem call0_tup{call:x14p}{f:FuncId}{l:List AV}{m m':Mem}{r:List AV}(hl:l.all still=true)(h:call [] f l mem0=some (.tup r,m'))(hr:r.all still=true):x14q call f l m=some (.tup r,m):=by
 unfold x14q
 rw[x1do _ hl]
 simp only[h]
 have:frz m'.get deep (.tup r)=some (.tup r):=by
  have h2:r.mapM (frz m'.get 5)=some r:=x19s λa ha=>x194 _ 3 (x1p5.mp hr a ha)
  show(r.mapM (frz m'.get 5)).map AV.tup=_
  rw[h2];rfl
 rw[this,x1dp _ hl]
 rfl
def Ans(call:x14p)(f:FuncId)(l:List AV)(r:AV):Prop:=∃m',call [] f l mem0=some (r,m')
theorem Ans.call0{call:x14p}{f:FuncId}{l:List AV}{m:Mem}{r:AV}(h:Ans call f l r)(hl:l.all still=true)(hr:still r=true):x14q call f l m=some (r,m):=
 let⟨_,h⟩:=h;Go.Ix.call0 hl h hr
theorem Ans.call0_tup{call:x14p}{f:FuncId}{l:List AV}{m:Mem}{r:List AV}(h:Ans call f l (.tup r))(hl:l.all still=true)(hr:r.all still=true):x14q call f l m=some (.tup r,m):=
 let⟨_,h⟩:=h;Go.Ix.call0_tup hl h hr
def Sl{α:Type}(enc:α->List AV)(a:AV)(l:List α):Prop:=(a=nilS/\l=[])\/∃x,a=.slit (l.flatMap enc) l.length x
variable{α:Type}{enc:α->List AV}{z:Nat}{a:AV}{l:List α}
theorem x172(hz:∀x,(enc x).length=z):∀l:List α,(l.flatMap enc).length=l.length*z
 |[]=>by simp
 |x::l=>by simp only[x1ps,x1pn,hz,x172 hz l,x1ph,x1qm];omega
theorem x1dq(hz:∀x,(enc x).length=z):∀(l:List α) (k:Nat),(l.flatMap enc).drop (k*z)=(l.drop k).flatMap enc
 |l,0=>by simp
 |[],k+1=>by simp
 |x::l,k+1=>by
  rw[x1ps,x1qm,x1sx,x1r9 (by rw[hz];omega),x1s1,hz,Nat.add_sub_cancel,x1dq hz l k,List.drop_succ_cons]
theorem x1b2{l:List α}{k:Nat}(h:k<l.length):l.drop k=l[k]::l.drop (k+1):=x1sg h
theorem x1aa{l r:List α}{x:α}{k:Nat}(h:l.drop k=x::r):∃hk:k<l.length,l[k]=x/\l.drop (k+1)=r:=by
 have hk:k<l.length:=by
  rcases x1pq k l.length with h'|h'
  .exact h'
  .rw[x1r9 h']at h;cases h
 rw[x1b2 hk]at h
 injection h with he hd
 exact⟨hk,he,hd⟩
theorem Sl.still1(h:Sl enc a l):still1 a=true:=by
 rcases h with ⟨rfl,_⟩|⟨x,rfl⟩<;>rfl
theorem Sl.still(h:Sl enc a l):still a=true:=by
 rcases h with ⟨rfl,_⟩|⟨x,rfl⟩<;>rfl
theorem Sl.clean(h:Sl enc a l):clean a=true:=by
 rcases h with ⟨rfl,_⟩|⟨x,rfl⟩<;>rfl
theorem Sl.clean1(h:Sl enc a l):clean1 a=true:=by
 rcases h with ⟨rfl,_⟩|⟨x,rfl⟩<;>rfl
theorem Sl.cells(h:Sl enc a l):a.cells=[a]:=by
 rcases h with ⟨rfl,_⟩|⟨x,rfl⟩<;>rfl
theorem Sl.one(h:Sl enc a l):a.one=true:=by
 rcases h with ⟨rfl,_⟩|⟨x,rfl⟩<;>rfl
theorem Sl.tX(h:Sl enc a l):tX a=some []:=by
 rcases h with ⟨rfl,_⟩|⟨x,rfl⟩<;>rfl
theorem Sl.lit(l:List α)(x:Bool):Sl enc (.slit (l.flatMap enc) l.length x) l:=Or.inr ⟨x,rfl⟩
theorem Sl.elems(hz:∀x,(enc x).length=z)(h:Sl enc a l)(objs:Id->Option Ob):elems objs z a=some (l.flatMap enc,l.length):=by
 rcases h with ⟨rfl,rfl⟩|⟨x,rfl⟩
 .rfl
 .have h1:=x172 hz l
  simp[Ix.elems,h1,x1pf]
theorem x1c0{t e:TypeId}(ht:P.underlying t=some (.slice e)):sLen P t nilS=some (I 0):=by
 have:x150 P (Builtin.len_ #[t] 0 #[Value.slice none 0 0])=some (.int .i64 0):=by
  simp[Builtin.len_,underlying,program,Bind.bind,Sem.bind,x150,Pure.pure,ht,goInt]
 show(x150 P (Builtin.len_ #[t] 0 #[Value.slice none 0 0])).map x15m=_
 rw[this];rfl
theorem Sl.len{t e:TypeId}(ht:P.underlying t=some (.slice e))(h:Sl enc a l):sLen P t a=some (I l.length):=by
 rcases h with ⟨rfl,rfl⟩|⟨x,rfl⟩
 .exact x1c0 ht
 .rfl
theorem Sl.ix(hz:∀x,(enc x).length=z)(h:Sl enc a l){k:Nat}(hk:k<l.length):sIx z a (I k)=some (.plit ((l.drop k).flatMap enc)):=by
 rcases h with ⟨rfl,rfl⟩|⟨x,rfl⟩
 .simp at hk
 .have:(0:Int)<=(k:Int)/\(k:Int)<(l.length:Int):=by omega
  simp[sIx,asI,x1dq hz,hk]
theorem ld_flat{m:Mem}(hz:∀x,(enc x).length=z)(h0:0<z){k:Nat}(hk:k<l.length):sLd true z (.plit ((l.drop k).flatMap enc)) m=some (.agg (enc l[k])):=by
 have h1:=hz l[k]
 rw[x1b2 hk,x1ps]
 simp only[sLd]
 have hne:(enc l[k]++(l.drop (k+1)).flatMap enc).isEmpty=false:=by
  cases he:enc l[k]with
  |nil=>rw[he]at h1;simp at h1;omega
  |cons=>rfl
 rw[hne]
 simp only[x1pj,x1p9,rd]
 rw[x1p0 trivial,x1p0 (by rw[x1pn];omega),x1sh (by omega),x1pf (by omega)]
@[simp] theorem x1dr(off:Nat)(id:Id)(ver o:Nat):sFA off (.ptr id ver o)=some (.ptr id ver (o+off)):=_root_.id rfl
@[simp] theorem x1gj(off:Nat)(cs:List AV):sFA off (.plit cs)=some (.plit (cs.drop off)):=_root_.id rfl
@[simp] theorem ld_cons{m:Mem}(x:AV)(cs:List AV):sLd false 1 (.plit (x::cs)) m=some x:=_root_.id rfl
theorem x195{m:Mem}{id:Id}{g:Bool}{z off ver:Nat}{cs:List AV}{fz:Bool}(h:m.get id=some (.row cs ver fz)):sLd g z (.ptr id ver off) m=rd g z (cs.drop off):=by
 simp[sLd,h]
@[simp] theorem sLd_cons(g:Bool)(z:Nat)(x:AV)(cs:List AV)(m:Mem):sLd g z (.plit (x::cs)) m=rd g z (x::cs):=_root_.id rfl
theorem x180{m:Mem}{id:Id}{z off ver:Nat}{cs:List AV}{x:AV}{k:Mem->Option R}(h:m.get id=some (.row cs ver false))(h1:x.cells.length=z)(h2:off+z<=cs.length)(h3:x.cells.all AV.one=true) :
 sSt z (.ptr id ver off) x m k=k (m.set id (.row (x15h cs off x.cells) ver false)):=by
 simp only[sSt,h]
 rw[x1p0 ⟨trivial,h1,h2,h3⟩]
@[simp] theorem Mem.next_set(m:Mem)(i:Id)(o:Ob):(m.set i o).next=m.next:=_root_.id rfl
@[simp] theorem Mem.next_new(m:Mem)(i:Id)(o:Ob):(m.new i o).next=m.next:=_root_.id rfl
theorem bind_cg{α β:Type}{x y:Option α}{f:α->Option β}(h:x=y):x.bind f=y.bind f:=by rw[h]
theorem cond_cg{α:Type}{x y:Bool}{a b:α}(h:x=y):cond x a b=cond y a b:=by rw[h]
theorem sCond_cg{x y:AV}{a b:Option R}(h:x=y):x14o x a b=x14o y a b:=by rw[h]
attribute [congr] bind_cg cond_cg sCond_cg
theorem x14w{α β:Type}(a:α)(f:α->Option β):(some a).bind f=f a:=_root_.id rfl
theorem x15p{α:Type}(a b:α):cond true a b=a:=_root_.id rfl
theorem x15t{α:Type}(a b:α):cond false a b=b:=_root_.id rfl
attribute [simp high] x14w x15p x15t
attribute [simp ↓ high] x15f x15k x14w x15p x15t
@[simp ↓] theorem x1ds(cs:List AV)(id:Id)(m:Mem)(k:AV->Mem->Option R):x151 cs id m k=k (.ptr id 0 0) (m.new id (.row cs 0 false)):=_root_.id rfl
def stRow(z ver off:Nat)(x:AV):Option Ob->Option Ob
 |some (.row cs v false)=>bif decide (v=ver/\x.cells.length=z/\off+z<=cs.length/\(x.cells.all AV.one)=true)then some (.row (x15h cs off x.cells) v false)else none
 |_=>none
theorem sSt_ptr(z:Nat)(id:Id)(ver off:Nat)(x:AV)(m:Mem)(k:Mem->Option R):sSt z (.ptr id ver off) x m k=(stRow z ver off x (m.get id)).bind λo=>k (m.set id o):=by
 cases h:m.get id with
 |none=>simp only[sSt,h];rfl
 |some o=>
  cases o with
  |map es=>simp only[sSt,h];rfl
  |lp d=>simp only[sSt,h];rfl
  |bld t e l=>simp only[sSt,h];rfl
  |row cs v f=>
   cases f with
   |true=>simp only[sSt,h];rfl
   |false=>
    simp only[sSt,h,stRow]
    by_cases hc:v=ver/\x.cells.length=z/\off+z<=cs.length/\(x.cells.all AV.one)=true
    .rw[x1p0 hc,x1pm hc];rfl
    .rw[x1oz hc,x1q2 hc];rfl
@[simp ↓] theorem x16l(c:AV)(w:Bool)(x:AV)(m:Mem)(k:AV×Mem->Option R):sGv c w x m k=(bif sW c w then some (x,m)else some (U,m)).bind k:=_root_.id rfl
@[simp ↓] theorem x16m(c:AV)(w:Bool)(x:Option AV)(m:Mem)(k:AV×Mem->Option R):sGo c w x m k=(bif sW c w then x.bind λv=>some (v,m)else some (U,m)).bind k:=_root_.id rfl
@[simp ↓] theorem x17n(c:AV)(w:Bool)(x:Option (AV×Mem))(m:Mem)(k:AV×Mem->Option R):sGp c w x m k=(bif sW c w then x.bind λp=>some (p.1,p.2)else some (U,m)).bind k:=_root_.id rfl
theorem x1dt(z ver off:Nat)(x:AV)(cs:List AV)(v:Nat):stRow z ver off x (some (.row cs v false))=bif decide (v=ver/\x.cells.length=z/\off+z<=cs.length/\(x.cells.all AV.one)=true)then some (.row (x15h cs off x.cells) v false)else none:=_root_.id rfl
theorem sBox_eq(x:AV)(id:Id)(m:Mem)(k:AV->Mem->Option R):sBox x id m k=bif x.cells.all AV.one then k (.ptr id 0 0) (m.new id (.row x.cells 0 false))else none:=by
 unfold sBox
 split
 .rename_i e;rw[e];rfl
 .rename_i e;rw[x1sl]at e;rw[e];rfl
def x1ab(g:Bool)(z ver off:Nat):Option Ob->Option AV
 |some (.row cs v _)=>bif Nat.beq v ver then rd g z (cs.drop off)else none
 |_=>none
theorem sLd_ptr(g:Bool)(z:Nat)(id:Id)(ver off:Nat)(m:Mem):sLd g z (.ptr id ver off) m=x1ab g z ver off (m.get id):=by
 cases h:m.get id with
 |none=>simp only[sLd,h];rfl
 |some o=>
  cases o with
  |map es=>simp only[sLd,h];rfl
  |lp d=>simp only[sLd,h];rfl
  |bld t e l=>simp only[sLd,h];rfl
  |row cs v f=>
   simp only[sLd,h,x1ab]
   by_cases hc:v=ver
   .subst hc;simp
   .rw[x1oz hc,show Nat.beq v ver=false from by rw[x1pv];intro x;exact hc (x1p8 x)];rfl
theorem ldRow_row(g:Bool)(z ver off:Nat)(cs:List AV)(v:Nat)(f:Bool):x1ab g z ver off (some (.row cs v f))=bif Nat.beq v ver then rd g z (cs.drop off)else none:=_root_.id rfl
theorem rd_t(z:Nat)(cs:List AV):rd true z cs=bif decide (z<=cs.length)then some (.agg (cs.take z))else none:=by
 unfold rd
 by_cases h:z<=cs.length<;>simp[h]
theorem rd_f(z:Nat)(a:AV)(cs:List AV):rd false z (a::cs)=some a:=_root_.id rfl
theorem rd_1(a:AV)(cs:List AV):rd true 1 (a::cs)=some (.agg [a]):=by rw[rd_t,x1ph,x1pm (by omega)];rfl
theorem rd_2(a b:AV)(cs:List AV):rd true 2 (a::b::cs)=some (.agg [a,b]):=by rw[rd_t];simp only[x1ph];rw[x1pm (by omega)];rfl
theorem rd_3(a b c:AV)(cs:List AV):rd true 3 (a::b::c::cs)=some (.agg [a,b,c]):=by rw[rd_t];simp only[x1ph];rw[x1pm (by omega)];rfl
theorem rd_4(a b c d:AV)(cs:List AV):rd true 4 (a::b::c::d::cs)=some (.agg [a,b,c,d]):=by rw[rd_t];simp only[x1ph];rw[x1pm (by omega)];rfl
theorem stRow_4(ver:Nat)(a b c d a' b' c' d':AV):stRow 4 ver 0 (.agg [a',b',c',d']) (some (.row [a,b,c,d] ver false))=bif[a',b',c',d'].all AV.one then some (.row [a',b',c',d'] ver false)else none:=by
 rw[x1dt]
 simp[x15h]
theorem splice_eq(cs:List AV)(off:Nat)(vs:List AV):x15h cs off vs=cs.take off++(vs++cs.drop (off+vs.length)):=_root_.id rfl
attribute [simp high] rd_1 rd_2 rd_3 rd_4 stRow_4
attribute [simp] sLd_ptr ldRow_row x1dt rd_t rd_f splice_eq Mem.get_set Mem.get_new x16a
attribute [simp ↓] sSt_ptr sBox_eq
def intE(x:Int):List AV:=[I x]
theorem x1gk(x:Int):(intE x).length=1:=_root_.id rfl
theorem Sl.ixI(hz:∀x,(enc x).length=z)(h:Sl enc a l){k:Int}(h0:0<=k)(hk:k<l.length):sIx z a (I k)=some (.plit ((l.drop k.toNat).flatMap enc)):=by
 have:=h.ix hz (k:=k.toNat) (by omega)
 rwa[Int.toNat_of_nonneg h0]at this
def at0(l:List Int)(k:Nat):Int:=l.getD k 0
theorem at0_lt{l:List Int}{k:Nat}(h:k<l.length):at0 l k=l[k]:=by
 unfold at0;rw[x1q3,x1pr h];rfl
theorem mkM_0(l:List AV):mkM 0 l=bif l.all clean then 2 else 0:=by
 unfold mkM
 cases h:l.all clean<;>simp[h]
theorem mkM_1(l:List AV):mkM 1 l=bif l.all clean then 2 else 0:=by
 unfold mkM
 cases h:l.all clean<;>simp[h]
@[simp] theorem mkM_3(l:List AV):mkM 3 l=1:=_root_.id rfl
@[simp] theorem mkM_4(l:List AV):mkM 4 l=1:=_root_.id rfl
@[simp] theorem clean_sc(v:Value):clean (.sc v)=true:=_root_.id rfl
@[simp] theorem clean_agg(l:List AV):clean (.agg l)=l.all clean1:=_root_.id rfl
@[simp] theorem clean_slit(l:List AV)(n:Nat)(x:Bool):clean (.slit l n x)=true:=_root_.id rfl
@[simp] theorem clean1_sc(v:Value):clean1 (.sc v)=true:=_root_.id rfl
@[simp] theorem clean1_slit(l:List AV)(n:Nat)(x:Bool):clean1 (.slit l n x)=true:=_root_.id rfl
@[simp] theorem ble_2:Nat.ble 1 2=true:=_root_.id rfl
@[simp] theorem ble_1:Nat.ble 1 1=true:=_root_.id rfl
@[simp] theorem cAp_R2(a:AV):cAp none (tR a) 2=true:=by
  unfold tR;split<;>rfl
@[simp] theorem cAp_R1(a:AV):cAp none (tR a) 1=true:=by
  unfold tR;split<;>rfl
attribute [simp] mkM_0 mkM_1
theorem x1gl{call:x14p}{f:FuncId}{l:List AV}{m m':Mem}{r r':AV}(hl:l.all still=true)(h:call [] f l mem0=some (r,m'))(hr:frz m'.get deep r=some r'):x14q call f l m=some (r',m):=by
 unfold x14q
 rw[x1do _ hl]
 simp only[h,hr]
 rw[x1dp _ hl]
 rfl
theorem x1ac{objs:Id->Option Ob}{id:Id}{cs:List AV}{ver off n z k:Nat}{f x:Bool}(h:objs id=some (.row cs ver f))(hl:off+n*z<=cs.length)(hs:((cs.drop off).take (n*z)).all still1=true) :
 frz objs (k+2) (.sref id ver off n z x)=some (.slit ((cs.drop off).take (n*z)) n false):=by
 have h2:((cs.drop off).take (n*z)).mapM (frz objs (k+1))=some ((cs.drop off).take (n*z)):=x19s λa ha=>x1b1 objs k (x1p5.mp hs a ha)
 simp only[frz,h]
 rw[x1p0 ⟨trivial,hl⟩]
 show((((cs.drop off).take (n*z)).mapM (frz objs (k+1))).map λl=>AV.slit l n false)=_
 rw[h2];rfl
theorem x1gm{size bytes:Nat}{id:Id}{src:List AV}{q:Nat}{m:Mem}{k:AV->Mem->Option R}(h:x15e q bytes) :
 sApp size bytes id (some (src,q)) (.slit [] 0 true) m k=bif decide (q=0)then k (.slit [] 0 true) m else k (.sref id 0 0 q size true) (m.new id (.row src 0 false)):=by
 simp only[sApp,x1r5,x1q5,List.take_nil,x1s1]
 rw[x1p0 (x1qx _)]
 by_cases hq:q=0
 .rw[x1p0 hq,x1pm hq];rfl
 .rw[x1oz hq,x1p0 h,x1q2 hq];rfl
theorem mkLit_nil{z:List AV}{size:Nat}{id:Id}{m:Mem}{k:AV->Mem->Option R}:x15c z [] 0 size id m k=k (.slit [] 0 true) m:=by
 simp[x15c,x18u,x15z]
theorem x196(he:∀x,(enc x).all still1=true):∀l:List α,(l.flatMap enc).all still1=true
 |[]=>rfl
 |x::l=>by rw[x1ps,List.all_append,he,x196 he l];rfl
theorem x1gn(x:Int):(intE x).all still1=true:=rfl
attribute [simp ↓] mkLit_nil
theorem x1go{z:AV}{x:AV}{id:Id}{m:Mem}{k:AV->Mem->Option R}(h1:x.cells=[x])(h2:x.one=true)(h3:clean1 x=true):x15c [z] [(0,1,x)] 1 1 id m k=k (.slit [x] 1 true) m:=by
 simp[x15c,x18u,x15z,h1,h2,h3,List.range_succ]
@[simp ↓] theorem mkLit_I{z:AV}{x:Int}{id:Id}{m:Mem}{k:AV->Mem->Option R}:x15c [z] [(0,1,I x)] 1 1 id m k=k (.slit [I x] 1 true) m:=x1go rfl rfl rfl
def Gr{α:Type}(z:Nat)(enc:α->List AV)(u t:Nat)(m:Mem)(a:AV)(l:List α):Prop:=
 (a=nilS/\l=[])\/∃s ver,a=.sref (u,s,t) ver 0 l.length z true/\m.get (u,s,t)=some (.row (l.flatMap enc) ver false)
theorem Gr.nil{u t:Nat}{m:Mem}:Gr z enc u t m nilS []:=Or.inl ⟨rfl,rfl⟩
theorem Gr.frame{u t:Nat}{m m':Mem}(h:Gr z enc u t m a l)(hm:∀s,m'.get (u,s,t)=m.get (u,s,t)):Gr z enc u t m' a l:=by
 rcases h with h|⟨s,ver,h1,h2⟩
 .exact Or.inl h
 .exact Or.inr ⟨s,ver,h1,by rw[hm];exact h2⟩
theorem Gr.app(hz:∀x,(enc x).length=z)(h0:0<z){u t s0 bytes:Nat}{m:Mem}(hr:x15e (l.length+1) bytes)(h:Gr z enc u t m a l)(x:α) :
 ∃a' m',(∀{R:Type} (k:AV->Mem->Option R),sApp z bytes (u,s0,t) (some (enc x,1)) a m k=k a' m')/\Gr z enc u t m' a' (l++[x])/\m'.next=m.next/\∀j:Id,j.2.2≠t->m'.get j=m.get j:=by
 rcases h with ⟨rfl,rfl⟩|⟨s,ver,rfl,hg⟩
 .refine⟨.sref (u,s0,t) 0 0 1 z true,m.new (u,s0,t) (.row (enc x) 0 false),λk=>?_,Or.inr ⟨s0,0,rfl,by simp⟩,rfl,λj hj=>?_⟩
  .simp only[sApp]
   rw[x1oz (by omega),x1p0 (by simpa using hr)]
  .rw[Mem.get_new,x1oz (by rintro rfl;exact hj rfl)]
 .have hl:=x172 hz l
  refine⟨.sref (u,s,t) (ver+1) 0 (l.length+1) z true,m.set (u,s,t) (.row (l.flatMap enc++enc x) (ver+1) false),λk=>?_,Or.inr ⟨s,ver+1,by simp,by simp⟩,rfl,λj hj=>?_⟩
  .simp only[sApp,hg]
   rw[x1p0 ⟨trivial,trivial,by omega,hr⟩,x1oz (by omega),x1oz (by rw[hl,x1qm];omega),x1po,x1pf (by omega)]
  .rw[Mem.get_set,x1oz (by rintro rfl;exact hj rfl)]
theorem Gr.frz(hz:∀x,(enc x).length=z)(hs:∀x,(enc x).all still1=true){u t:Nat}{m:Mem}(h:Gr z enc u t m a l):∃a',Sl enc a' l/\frz m.get deep a=some a':=by
 rcases h with ⟨rfl,rfl⟩|⟨s,ver,rfl,hg⟩
 .exact⟨nilS,Or.inl ⟨rfl,rfl⟩,rfl⟩
 .have hl:=x172 hz l
  refine⟨.slit (l.flatMap enc) l.length false,Sl.lit l false,?_⟩
  have:=x1ac (objs:=m.get) (id:=(u,s,t)) (cs:=l.flatMap enc) (ver:=ver) (off:=0) (n:=l.length) (z:=z) (k:=4) (f:=false) (x:=true) hg (by omega) (by
   rw[x1po,x1pf (by omega)];exact x196 hs l)
  rw[x1po,x1pf (by omega)]at this
  exact this
theorem frz_tup{objs:Id->Option Ob}{l:List AV}(h:l.all still=true):Go.Ix.frz objs deep (.tup l)=some (.tup l):=by
 have h2:l.mapM (Go.Ix.frz objs 5)=some l:=x19s λa ha=>x194 _ 3 (x1p5.mp h a ha)
 show(l.mapM (Go.Ix.frz objs 5)).map AV.tup=_
 rw[h2];rfl
theorem x197:NN=18446744073709551616:=rfl
theorem sBin_0{op:BinOp}{t:TypeId}{x y:Operand}{a b r:AV}(h:bin0 P op t x y a b=some r):sBin P op t x y a b=some r:=by unfold sBin;rw[h]
theorem sCvt_0{s d:TypeId}{a r:AV}(h:cvt0 P s d a=some r):sCvt P s d a=some r:=by unfold sCvt;rw[h]
end Go.Ix
