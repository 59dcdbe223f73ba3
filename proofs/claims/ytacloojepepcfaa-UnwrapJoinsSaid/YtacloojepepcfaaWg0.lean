import Derived.Test.YtacloojepepcfaaFxCall
import Derived.Test.YtacloojepepcfaaFxOps
set_option linter.unusedSimpArgs false
namespace Go.Ix
open Go.Proofs
variable{R:Type}{P:Program}{m:Mem}
@[simp] theorem x8c(x y:Int):sAdd (I x) (I y)=some (I (w64 (x+y))):=_root_.id rfl
@[simp] theorem xbh(x y:Int):sSub (I x) (I y)=some (I (w64 (x-y))):=_root_.id rfl
@[simp] theorem xc0(x y:Int):sMul (I x) (I y)=some (I (w64 (x*y))):=_root_.id rfl
@[simp] theorem x8m(x y:Int):sLt (I x) (I y)=some (B (decide (x<y))):=_root_.id rfl
@[simp] theorem sLe_I(x y:Int):sLe (I x) (I y)=some (B (decide (x<=y))):=_root_.id rfl
@[simp] theorem xcm(x y:Int):sGt (I x) (I y)=some (B (decide (y<x))):=_root_.id rfl
@[simp] theorem sGe_I(x y:Int):sGe (I x) (I y)=some (B (decide (y<=x))):=_root_.id rfl
@[simp] theorem xa5(x y:Int):sEq (I x) (I y)=some (B (decide (x=y))):=_root_.id rfl
@[simp] theorem x9x(x y:Int):sNe (I x) (I y)=some (B (!decide (x=y))):=_root_.id rfl
@[simp] theorem sNeg_I(x:Int):sNeg (I x)=some (I (w64 (0-x))):=_root_.id rfl
@[simp] theorem xa6(b:Bool):sNot (B b)=some (B (!b)):=_root_.id rfl
@[simp] theorem sMin_I(x y:Int):sMin (I x) (I y)=some (I (if y<x then y else x)):=_root_.id rfl
@[simp] theorem sMax_I(x y:Int):sMax (I x) (I y)=some (I (if y > x then y else x)):=_root_.id rfl
theorem sQuo_I{x y:Int}(h:y≠0):sQuo (I x) (I y)=some (I (w64 (x.tdiv y))):=by simp[sQuo,h]
theorem sRem_I{x y:Int}(h:y≠0):sRem (I x) (I y)=some (I (x.tmod y)):=by simp[sRem,h]
@[simp] theorem x9m(c:Bool)(a b:AV):x8u (B c) a b=some (bif c then a else b):=_root_.id rfl
@[simp] theorem x89(a b:Option R):x80 (B true) a b=a:=_root_.id rfl
@[simp] theorem x86(a b:Option R):x80 (B false) a b=b:=_root_.id rfl
@[simp] theorem sW_t(b:Bool):sW (B b) true=b:=by cases b<;>rfl
@[simp] theorem sW_f(b:Bool):sW (B b) false=!b:=by cases b<;>rfl
@[simp] theorem sW_U(w:Bool):sW U w=false:=_root_.id rfl
@[simp] theorem sExt_tup(l:List AV)(i:Nat):sExt (.tup l) i=l[i]?:=_root_.id rfl
@[simp] theorem cells_I(x:Int):(I x).cells=[I x]:=_root_.id rfl
@[simp] theorem cells_B(x:Bool):(B x).cells=[B x]:=_root_.id rfl
@[simp] theorem x9z(l:List AV):(AV.agg l).cells=l:=_root_.id rfl
@[simp] theorem cells_slit(l:List AV)(n:Nat)(x:Bool):(AV.slit l n x).cells=[.slit l n x]:=_root_.id rfl
@[simp] theorem cells_sref(id:Id)(ver off n z:Nat)(f:Bool):(AV.sref id ver off n z f).cells=[.sref id ver off n z f]:=_root_.id rfl
@[simp] theorem cells_nilS:(nilS).cells=[nilS]:=_root_.id rfl
@[simp] theorem one_I(x:Int):(I x).one=true:=_root_.id rfl
@[simp] theorem one_B(x:Bool):(B x).one=true:=_root_.id rfl
@[simp] theorem one_slit(l:List AV)(n:Nat)(x:Bool):(AV.slit l n x).one=true:=_root_.id rfl
@[simp] theorem one_sref(id:Id)(ver off n z:Nat)(f:Bool):(AV.sref id ver off n z f).one=true:=_root_.id rfl
@[simp] theorem one_nilS:(nilS).one=true:=_root_.id rfl
@[simp] theorem one_clo(f:FuncId)(l:List AV):(AV.clo f l).one=true:=_root_.id rfl
def still1:AV->Bool
 | .sc _ | .slit .. | .plit _ | .un _=>true
 |_=>false
def still:AV->Bool
 | .sc _ | .slit .. | .plit _ | .un _=>true
 | .agg l=>l.all still1
 | .clo _ l=>l.all still1
 |_=>false
@[simp] theorem still1_sc(v:Value):still1 (.sc v)=true:=_root_.id rfl
@[simp] theorem still1_slit(l:List AV)(n:Nat)(x:Bool):still1 (.slit l n x)=true:=_root_.id rfl
@[simp] theorem still_sc(v:Value):still (.sc v)=true:=_root_.id rfl
@[simp] theorem still_slit(l:List AV)(n:Nat)(x:Bool):still (.slit l n x)=true:=_root_.id rfl
@[simp] theorem still_agg(l:List AV):still (.agg l)=l.all still1:=_root_.id rfl
@[simp] theorem still_clo(f:FuncId)(l:List AV):still (.clo f l)=l.all still1:=_root_.id rfl
theorem xdz{a:AV}(objs:Id->Option Ob)(k:Nat)(h:still1 a=true):frz objs (k+1) a=some a:=by
 cases a<;>simp_all [frz,still1]
theorem xd8{f:AV->Option AV}:∀{l:List AV},(∀a∈l,f a=some a)->l.mapM f=some l
 |[],_=>rfl
 |a::l,h=>by
  rw[xnw,h a (xnd ..),xd8 λb hb=>h b (xn6 _ hb)]
  rfl
theorem xet{a:AV}(objs:Id->Option Ob)(k:Nat)(h:still a=true):frz objs (k+2) a=some a:=by
 cases a with
 |agg l=>
  simp only[still,xn1]at h
  have:l.mapM (frz objs (k+1))=some l:=xd8 λb hb=>xdz objs k (h b hb)
  show(l.mapM (frz objs (k+1))).map AV.agg=_
  rw[this];rfl
 |clo f l=>
  simp only[still,xn1]at h
  have:l.mapM (frz objs (k+1))=some l:=xd8 λb hb=>xdz objs k (h b hb)
  show(l.mapM (frz objs (k+1))).map (AV.clo f)=_
  rw[this];rfl
 |_=>first|(exact xdz objs (k+1) rfl)|(simp[still]at h)
theorem xeu{a:AV}(objs:Id->Option Ob)(k:Nat)(h:still1 a=true):reach objs (k+1) a=[]:=by
 cases a<;>simp_all [reach,still1]
theorem xl7{a:AV}(objs:Id->Option Ob)(k:Nat)(h:still a=true):reach objs (k+2) a=[]:=by
 cases a with
 |agg l=>
  simp only[still,xn1]at h
  show l.flatMap (reach objs (k+1))=[]
  rw[xp1]
  exact λb hb=>xeu objs k (h b hb)
 |clo f l=>
  simp only[still,xn1]at h
  show l.flatMap (reach objs (k+1))=[]
  rw[xp1]
  exact λb hb=>xeu objs k (h b hb)
 |_=>first|(exact xeu objs (k+1) rfl)|(simp[still]at h)
theorem xev{l:List AV}(objs:Id->Option Ob)(h:l.all still=true):l.mapM (frz objs deep)=some l:=
 xd8 λa ha=>xet objs 4 (xn1.mp h a ha)
theorem xiz{l:List AV}(objs:Id->Option Ob)(h:l.all still=true):l.flatMap (reach objs deep)=[]:=by
 rw[xp1]
 exact λa ha=>xl7 objs 4 (xn1.mp h a ha)
theorem call0{call:x7w}{f:FuncId}{l:List AV}{m m':Mem}{r:AV}(hl:l.all still=true)(h:call [] f l mem0=some (r,m'))(hr:still r=true):x7y call f l m=some (r,m):=by
 unfold x7y
 rw[xev _ hl]
 simp only[h]
 rw[show frz m'.get deep r=some r from xet _ 4 hr,xiz _ hl]
 rfl
def Ans(call:x7w)(f:FuncId)(l:List AV)(r:AV):Prop:=∃m',call [] f l mem0=some (r,m')
theorem Ans.call0{call:x7w}{f:FuncId}{l:List AV}{m:Mem}{r:AV}(h:Ans call f l r)(hl:l.all still=true)(hr:still r=true):x7y call f l m=some (r,m):=
 let⟨_,h⟩:=h;Go.Ix.call0 hl h hr
def Sl{α:Type}(enc:α->List AV)(a:AV)(l:List α):Prop:=(a=nilS/\l=[])\/∃x,a=.slit (l.flatMap enc) l.length x
variable{α:Type}{enc:α->List AV}{z:Nat}{a:AV}{l:List α}
theorem xaf(hz:∀x,(enc x).length=z):∀l:List α,(l.flatMap enc).length=l.length*z
 |[]=>by simp
 |x::l=>by simp only[xo1,xo9,hz,xaf hz l,xnp,xnu];omega
theorem xj0(hz:∀x,(enc x).length=z):∀(l:List α) (k:Nat),(l.flatMap enc).drop (k*z)=(l.drop k).flatMap enc
 |l,0=>by simp
 |[],k+1=>by simp
 |x::l,k+1=>by
  rw[xo1,xnu,xq4,xq5 (by rw[hz];omega),xof,hz,Nat.add_sub_cancel,xj0 hz l k,List.drop_succ_cons]
theorem xd9{l:List α}{k:Nat}(h:k<l.length):l.drop k=l[k]::l.drop (k+1):=xp4 h
theorem xe0{l r:List α}{x:α}{k:Nat}(h:l.drop k=x::r):∃hk:k<l.length,l[k]=x/\l.drop (k+1)=r:=by
 have hk:k<l.length:=by
  rcases xnv k l.length with h'|h'
  .exact h'
  .rw[xq5 h']at h;cases h
 rw[xd9 hk]at h
 injection h with he hd
 exact⟨hk,he,hd⟩
theorem Sl.still1(h:Sl enc a l):still1 a=true:=by
 rcases h with ⟨rfl,_⟩|⟨x,rfl⟩<;>rfl
theorem Sl.still(h:Sl enc a l):still a=true:=by
 rcases h with ⟨rfl,_⟩|⟨x,rfl⟩<;>rfl
theorem Sl.clean(h:Sl enc a l):clean a=true:=by
 rcases h with ⟨rfl,_⟩|⟨x,rfl⟩<;>rfl
theorem Sl.clean1(h:Sl enc a l):clean1 a=true:=by
 rcases h with ⟨rfl,_⟩|⟨x,rfl⟩<;>rfl
theorem Sl.cells(h:Sl enc a l):a.cells=[a]:=by
 rcases h with ⟨rfl,_⟩|⟨x,rfl⟩<;>rfl
theorem Sl.one(h:Sl enc a l):a.one=true:=by
 rcases h with ⟨rfl,_⟩|⟨x,rfl⟩<;>rfl
theorem Sl.tX(h:Sl enc a l):tX a=some []:=by
 rcases h with ⟨rfl,_⟩|⟨x,rfl⟩<;>rfl
theorem Sl.lit(l:List α)(x:Bool):Sl enc (.slit (l.flatMap enc) l.length x) l:=Or.inr ⟨x,rfl⟩
theorem Sl.elems(hz:∀x,(enc x).length=z)(h:Sl enc a l)(objs:Id->Option Ob):elems objs z a=some (l.flatMap enc,l.length):=by
 rcases h with ⟨rfl,rfl⟩|⟨x,rfl⟩
 .rfl
 .have h1:=xaf hz l
  simp[Ix.elems,h1,xn9]
theorem xew{t e:TypeId}(ht:P.underlying t=some (.slice e)):sLen P t nilS=some (I 0):=by
 have:x8a P (Builtin.len_ #[t] 0 #[Value.slice none 0 0])=some (.int .i64 0):=by
  simp[Builtin.len_,underlying,program,Bind.bind,Sem.bind,x8a,Pure.pure,ht,goInt]
 show(x8a P (Builtin.len_ #[t] 0 #[Value.slice none 0 0])).map x8l=_
 rw[this];rfl
theorem Sl.len{t e:TypeId}(ht:P.underlying t=some (.slice e))(h:Sl enc a l):sLen P t a=some (I l.length):=by
 rcases h with ⟨rfl,rfl⟩|⟨x,rfl⟩
 .exact xew ht
 .rfl
theorem Sl.ix(hz:∀x,(enc x).length=z)(h:Sl enc a l){k:Nat}(hk:k<l.length):sIx z a (I k)=some (.plit ((l.drop k).flatMap enc)):=by
 rcases h with ⟨rfl,rfl⟩|⟨x,rfl⟩
 .simp at hk
 .have:(0:Int)<=(k:Int)/\(k:Int)<(l.length:Int):=by omega
  simp[sIx,asI,xj0 hz,hk]
@[simp] theorem xa0(off:Nat)(id:Id)(ver o:Nat):sFA off (.ptr id ver o)=some (.ptr id ver (o+off)):=_root_.id rfl
@[simp] theorem sFA_plit(off:Nat)(cs:List AV):sFA off (.plit cs)=some (.plit (cs.drop off)):=_root_.id rfl
@[simp] theorem ld_cons{m:Mem}(x:AV)(cs:List AV):sLd false 1 (.plit (x::cs)) m=some x:=_root_.id rfl
theorem x7z{m:Mem}{id:Id}{g:Bool}{z off ver:Nat}{cs:List AV}{fz:Bool}(h:m.get id=some (.row cs ver fz)):sLd g z (.ptr id ver off) m=rd g z (cs.drop off):=by
 simp[sLd,h]
@[simp] theorem sLd_cons(g:Bool)(z:Nat)(x:AV)(cs:List AV)(m:Mem):sLd g z (.plit (x::cs)) m=rd g z (x::cs):=_root_.id rfl
theorem x8y{m:Mem}{id:Id}{z off ver:Nat}{cs:List AV}{x:AV}{k:Mem->Option R}(h:m.get id=some (.row cs ver false))(h1:x.cells.length=z)(h2:off+z<=cs.length)(h3:x.cells.all AV.one=true) :
 sSt z (.ptr id ver off) x m k=k (m.set id (.row (x8b cs off x.cells) ver false)):=by
 simp only[sSt,h]
 rw[xmv ⟨trivial,h1,h2,h3⟩]
theorem Mem.get_set_same(m:Mem)(i:Id)(o:Ob):(m.set i o).get i=some o:=by rw[Mem.get_set,xmv rfl]
theorem Mem.get_new_same(m:Mem)(i:Id)(o:Ob):(m.new i o).get i=some o:=by rw[Mem.get_new,xmv rfl]
theorem Mem.get_set_ne{m:Mem}{i j:Id}{o:Ob}(h:j≠i):(m.set i o).get j=m.get j:=by rw[Mem.get_set,xmw h]
theorem Mem.get_new_ne{m:Mem}{i j:Id}{o:Ob}(h:j≠i):(m.new i o).get j=m.get j:=by rw[Mem.get_new,xmw h]
@[simp] theorem Mem.next_set(m:Mem)(i:Id)(o:Ob):(m.set i o).next=m.next:=_root_.id rfl
@[simp] theorem Mem.next_new(m:Mem)(i:Id)(o:Ob):(m.new i o).next=m.next:=_root_.id rfl
theorem bind_cg{α β:Type}{x y:Option α}{f:α->Option β}(h:x=y):x.bind f=y.bind f:=by rw[h]
theorem cond_cg{α:Type}{x y:Bool}{a b:α}(h:x=y):cond x a b=cond y a b:=by rw[h]
theorem sCond_cg{x y:AV}{a b:Option R}(h:x=y):x80 x a b=x80 y a b:=by rw[h]
attribute [congr] bind_cg cond_cg sCond_cg
theorem x7x{α β:Type}(a:α)(f:α->Option β):(some a).bind f=f a:=_root_.id rfl
theorem x94{α:Type}(a b:α):cond true a b=a:=_root_.id rfl
theorem x99{α:Type}(a b:α):cond false a b=b:=_root_.id rfl
attribute [simp high] x7x x94 x99
attribute [simp ↓ high] x89 x86 x7x x94 x99
@[simp ↓] theorem xbi(cs:List AV)(id:Id)(m:Mem)(k:AV->Mem->Option R):x8v cs id m k=k (.ptr id 0 0) (m.new id (.row cs 0 false)):=_root_.id rfl
def stRow(z ver off:Nat)(x:AV):Option Ob->Option Ob
 |some (.row cs v false)=>bif decide (v=ver/\x.cells.length=z/\off+z<=cs.length/\(x.cells.all AV.one)=true)then some (.row (x8b cs off x.cells) v false)else none
 |_=>none
theorem sSt_ptr(z:Nat)(id:Id)(ver off:Nat)(x:AV)(m:Mem)(k:Mem->Option R):sSt z (.ptr id ver off) x m k=(stRow z ver off x (m.get id)).bind λo=>k (m.set id o):=by
 cases h:m.get id with
 |none=>simp only[sSt,h];rfl
 |some o=>
  cases o with
  |map es=>simp only[sSt,h];rfl
  |lp d=>simp only[sSt,h];rfl
  |row cs v f=>
   cases f with
   |true=>simp only[sSt,h];rfl
   |false=>
    simp only[sSt,h,stRow]
    by_cases hc:v=ver/\x.cells.length=z/\off+z<=cs.length/\(x.cells.all AV.one)=true
    .rw[xmv hc,xny hc];rfl
    .rw[xmw hc,xq6 hc];rfl
@[simp ↓] theorem xaq(c:AV)(w:Bool)(x:AV)(m:Mem)(k:AV×Mem->Option R):sGv c w x m k=(bif sW c w then some (x,m)else some (U,m)).bind k:=_root_.id rfl
@[simp ↓] theorem xb5(c:AV)(w:Bool)(x:Option AV)(m:Mem)(k:AV×Mem->Option R):sGo c w x m k=(bif sW c w then x.bind λv=>some (v,m)else some (U,m)).bind k:=_root_.id rfl
@[simp ↓] theorem xe1(c:AV)(w:Bool)(x:Option (AV×Mem))(m:Mem)(k:AV×Mem->Option R):sGp c w x m k=(bif sW c w then x.bind λp=>some (p.1,p.2)else some (U,m)).bind k:=_root_.id rfl
theorem xgb(z ver off:Nat)(x:AV)(cs:List AV)(v:Nat):stRow z ver off x (some (.row cs v false))=bif decide (v=ver/\x.cells.length=z/\off+z<=cs.length/\(x.cells.all AV.one)=true)then some (.row (x8b cs off x.cells) v false)else none:=_root_.id rfl
theorem xgc(x:AV)(id:Id)(m:Mem)(k:AV->Mem->Option R):sBox x id m k=bif x.cells.all AV.one then k (.ptr id 0 0) (m.new id (.row x.cells 0 false))else none:=by
 unfold sBox
 split
 .rename_i e;rw[e];rfl
 .rename_i e;rw[xql]at e;rw[e];rfl
def xcn(g:Bool)(z ver off:Nat):Option Ob->Option AV
 |some (.row cs v _)=>bif Nat.beq v ver then rd g z (cs.drop off)else none
 |_=>none
theorem xgd(g:Bool)(z:Nat)(id:Id)(ver off:Nat)(m:Mem):sLd g z (.ptr id ver off) m=xcn g z ver off (m.get id):=by
 cases h:m.get id with
 |none=>simp only[sLd,h];rfl
 |some o=>
  cases o with
  |map es=>simp only[sLd,h];rfl
  |lp d=>simp only[sLd,h];rfl
  |row cs v f=>
   simp only[sLd,h,xcn]
   by_cases hc:v=ver
   .subst hc;simp
   .rw[xmw hc,show Nat.beq v ver=false from by rw[xnn];intro x;exact hc (xn7 x)];rfl
theorem ldRow_row(g:Bool)(z ver off:Nat)(cs:List AV)(v:Nat)(f:Bool):xcn g z ver off (some (.row cs v f))=bif Nat.beq v ver then rd g z (cs.drop off)else none:=_root_.id rfl
theorem rd_t(z:Nat)(cs:List AV):rd true z cs=bif decide (z<=cs.length)then some (.agg (cs.take z))else none:=by
 unfold rd
 by_cases h:z<=cs.length<;>simp[h]
theorem rd_f(z:Nat)(a:AV)(cs:List AV):rd false z (a::cs)=some a:=_root_.id rfl
theorem rd_1(a:AV)(cs:List AV):rd true 1 (a::cs)=some (.agg [a]):=by rw[rd_t,xnp,xny (by omega)];rfl
theorem rd_2(a b:AV)(cs:List AV):rd true 2 (a::b::cs)=some (.agg [a,b]):=by rw[rd_t];simp only[xnp];rw[xny (by omega)];rfl
theorem rd_3(a b c:AV)(cs:List AV):rd true 3 (a::b::c::cs)=some (.agg [a,b,c]):=by rw[rd_t];simp only[xnp];rw[xny (by omega)];rfl
theorem rd_4(a b c d:AV)(cs:List AV):rd true 4 (a::b::c::d::cs)=some (.agg [a,b,c,d]):=by rw[rd_t];simp only[xnp];rw[xny (by omega)];rfl
theorem stRow_4(ver:Nat)(a b c d a' b' c' d':AV):stRow 4 ver 0 (.agg [a',b',c',d']) (some (.row [a,b,c,d] ver false))=bif[a',b',c',d'].all AV.one then some (.row [a',b',c',d'] ver false)else none:=by
 rw[xgb]
 simp[x8b]
theorem splice_eq(cs:List AV)(off:Nat)(vs:List AV):x8b cs off vs=cs.take off++(vs++cs.drop (off+vs.length)):=_root_.id rfl
attribute [simp high] rd_1 rd_2 rd_3 rd_4 stRow_4
attribute [simp] xgd ldRow_row xgb rd_t rd_f splice_eq Mem.get_set Mem.get_new x82
attribute [simp ↓] sSt_ptr xgc
def intE(x:Int):List AV:=[I x]
theorem x8n(x:Int):(intE x).length=1:=_root_.id rfl
theorem Sl.ixI(hz:∀x,(enc x).length=z)(h:Sl enc a l){k:Int}(h0:0<=k)(hk:k<l.length):sIx z a (I k)=some (.plit ((l.drop k.toNat).flatMap enc)):=by
 have:=h.ix hz (k:=k.toNat) (by omega)
 rwa[Int.toNat_of_nonneg h0]at this
def at0(l:List Int)(k:Nat):Int:=l.getD k 0
theorem x8j{l:List Int}{k:Nat}(h:k<l.length):at0 l k=l[k]:=by
 unfold at0;rw[xnx,xnj h];rfl
theorem xa7{m:Mem}{l:List Int}{k:Nat}(hk:k<l.length):sLd false 1 (.plit ((l.drop k).flatMap intE)) m=some (I (at0 l k)):=by
 rw[xd9 hk,xo1,x8j hk]
 rfl
theorem mkM_0(l:List AV):mkM 0 l=bif l.all clean then 2 else 0:=by
 unfold mkM
 cases h:l.all clean<;>simp[h]
theorem mkM_1(l:List AV):mkM 1 l=bif l.all clean then 2 else 0:=by
 unfold mkM
 cases h:l.all clean<;>simp[h]
@[simp] theorem mkM_3(l:List AV):mkM 3 l=1:=_root_.id rfl
@[simp] theorem mkM_4(l:List AV):mkM 4 l=1:=_root_.id rfl
@[simp] theorem clean_sc(v:Value):clean (.sc v)=true:=_root_.id rfl
@[simp] theorem clean_agg(l:List AV):clean (.agg l)=l.all clean1:=_root_.id rfl
@[simp] theorem clean_slit(l:List AV)(n:Nat)(x:Bool):clean (.slit l n x)=true:=_root_.id rfl
@[simp] theorem clean1_sc(v:Value):clean1 (.sc v)=true:=_root_.id rfl
@[simp] theorem clean1_slit(l:List AV)(n:Nat)(x:Bool):clean1 (.slit l n x)=true:=_root_.id rfl
@[simp] theorem ble_2:Nat.ble 1 2=true:=_root_.id rfl
@[simp] theorem ble_1:Nat.ble 1 1=true:=_root_.id rfl
@[simp] theorem cAp_R2(a:AV):cAp none (tR a) 2=true:=by
  unfold tR;split<;>rfl
@[simp] theorem cAp_R1(a:AV):cAp none (tR a) 1=true:=by
  unfold tR;split<;>rfl
attribute [simp] mkM_0 mkM_1
theorem xda{call:x7w}{f:FuncId}{l:List AV}{m m':Mem}{r r':AV}(hl:l.all still=true)(h:call [] f l mem0=some (r,m'))(hr:frz m'.get deep r=some r'):x7y call f l m=some (r',m):=by
 unfold x7y
 rw[xev _ hl]
 simp only[h,hr]
 rw[xiz _ hl]
 rfl
theorem xco{objs:Id->Option Ob}{id:Id}{cs:List AV}{ver off n z k:Nat}{f x:Bool}(h:objs id=some (.row cs ver f))(hl:off+n*z<=cs.length)(hs:((cs.drop off).take (n*z)).all still1=true) :
 frz objs (k+2) (.sref id ver off n z x)=some (.slit ((cs.drop off).take (n*z)) n false):=by
 have h2:((cs.drop off).take (n*z)).mapM (frz objs (k+1))=some ((cs.drop off).take (n*z)):=xd8 λa ha=>xdz objs k (xn1.mp hs a ha)
 simp only[frz,h]
 rw[xmv ⟨trivial,hl⟩]
 show((((cs.drop off).take (n*z)).mapM (frz objs (k+1))).map λl=>AV.slit l n false)=_
 rw[h2];rfl
theorem xj1{size bytes:Nat}{id:Id}{src:List AV}{q:Nat}{m:Mem}{k:AV->Mem->Option R}(h:x83 q bytes) :
 sApp size bytes id (some (src,q)) (.slit [] 0 true) m k=bif decide (q=0)then k (.slit [] 0 true) m else k (.sref id 0 0 q size true) (m.new id (.row src 0 false)):=by
 simp only[sApp,xoy,xng,List.take_nil,xof]
 rw[xmv (Nat.zero_le _)]
 by_cases hq:q=0
 .rw[xmv hq,xny hq];rfl
 .rw[xmw hq,xmv h,xq6 hq];rfl
theorem xj2{z:List AV}{size:Nat}{id:Id}{m:Mem}{k:AV->Mem->Option R}:x9l z [] 0 size id m k=k (.slit [] 0 true) m:=by
 simp[x9l,xb3,x8d]
theorem xbj(he:∀x,(enc x).all still1=true):∀l:List α,(l.flatMap enc).all still1=true
 |[]=>rfl
 |x::l=>by rw[xo1,List.all_append,he,xbj he l];rfl
theorem xb6(x:Int):(intE x).all still1=true:=rfl
attribute [simp ↓] xj2
theorem mkLit_one{z:AV}{x:AV}{id:Id}{m:Mem}{k:AV->Mem->Option R}(h1:x.cells=[x])(h2:x.one=true)(h3:clean1 x=true):x9l [z] [(0,1,x)] 1 1 id m k=k (.slit [x] 1 true) m:=by
 simp[x9l,xb3,x8d,h1,h2,h3,List.range_succ]
@[simp ↓] theorem xe2{z:AV}{x:Int}{id:Id}{m:Mem}{k:AV->Mem->Option R}:x9l [z] [(0,1,I x)] 1 1 id m k=k (.slit [I x] 1 true) m:=mkLit_one rfl rfl rfl
def Gr{α:Type}(z:Nat)(enc:α->List AV)(u t:Nat)(m:Mem)(a:AV)(l:List α):Prop:=
 (a=nilS/\l=[])\/∃s ver,a=.sref (u,s,t) ver 0 l.length z true/\m.get (u,s,t)=some (.row (l.flatMap enc) ver false)
theorem Gr.nil{u t:Nat}{m:Mem}:Gr z enc u t m nilS []:=Or.inl ⟨rfl,rfl⟩
theorem Gr.frame{u t:Nat}{m m':Mem}(h:Gr z enc u t m a l)(hm:∀s,m'.get (u,s,t)=m.get (u,s,t)):Gr z enc u t m' a l:=by
 rcases h with h|⟨s,ver,h1,h2⟩
 .exact Or.inl h
 .exact Or.inr ⟨s,ver,h1,by rw[hm];exact h2⟩
theorem Gr.app(hz:∀x,(enc x).length=z)(h0:0<z){u t s0 bytes:Nat}{m:Mem}(hr:x83 (l.length+1) bytes)(h:Gr z enc u t m a l)(x:α) :
 ∃a' m',(∀{R:Type} (k:AV->Mem->Option R),sApp z bytes (u,s0,t) (some (enc x,1)) a m k=k a' m')/\Gr z enc u t m' a' (l++[x])/\m'.next=m.next/\∀j:Id,j.2.2≠t->m'.get j=m.get j:=by
 rcases h with ⟨rfl,rfl⟩|⟨s,ver,rfl,hg⟩
 .refine⟨.sref (u,s0,t) 0 0 1 z true,m.new (u,s0,t) (.row (enc x) 0 false),λk=>?_,Or.inr ⟨s0,0,rfl,by simp⟩,rfl,λj hj=>?_⟩
  .simp only[sApp]
   rw[xmw (by omega),xmv (by simpa using hr)]
  .rw[Mem.get_new,xmw (by rintro rfl;exact hj rfl)]
 .have hl:=xaf hz l
  refine⟨.sref (u,s,t) (ver+1) 0 (l.length+1) z true,m.set (u,s,t) (.row (l.flatMap enc++enc x) (ver+1) false),λk=>?_,Or.inr ⟨s,ver+1,by simp,by simp⟩,rfl,λj hj=>?_⟩
  .simp only[sApp,hg]
   rw[xmv ⟨trivial,trivial,by omega,hr⟩,xmw (by omega),xmw (by rw[hl,xnu];omega),xnc,xn9 (by omega)]
  .rw[Mem.get_set,xmw (by rintro rfl;exact hj rfl)]
theorem Gr.frz(hz:∀x,(enc x).length=z)(hs:∀x,(enc x).all still1=true){u t:Nat}{m:Mem}(h:Gr z enc u t m a l):∃a',Sl enc a' l/\frz m.get deep a=some a':=by
 rcases h with ⟨rfl,rfl⟩|⟨s,ver,rfl,hg⟩
 .exact⟨nilS,Or.inl ⟨rfl,rfl⟩,rfl⟩
 .have hl:=xaf hz l
  refine⟨.slit (l.flatMap enc) l.length false,Sl.lit l false,?_⟩
  have:=xco (objs:=m.get) (id:=(u,s,t)) (cs:=l.flatMap enc) (ver:=ver) (off:=0) (n:=l.length) (z:=z) (k:=4) (f:=false) (x:=true) hg (by omega) (by
   rw[xnc,xn9 (by omega)];exact xbj hs l)
  rw[xnc,xn9 (by omega)]at this
  exact this
theorem frz_tup{objs:Id->Option Ob}{l:List AV}(h:l.all still=true):Go.Ix.frz objs deep (.tup l)=some (.tup l):=by
 have h2:l.mapM (Go.Ix.frz objs 5)=some l:=xd8 λa ha=>xet _ 3 (xn1.mp h a ha)
 show(l.mapM (Go.Ix.frz objs 5)).map AV.tup=_
 rw[h2];rfl
theorem x9s:NN=18446744073709551616:=rfl
theorem sBin_0{op:BinOp}{t:TypeId}{x y:Operand}{a b r:AV}(h:bin0 P op t x y a b=some r):sBin P op t x y a b=some r:=by unfold sBin;rw[h]
structure Edge where
 fr:Int
 to:Int
 jump:Int
 wt:Int
def Edge.c(e:Edge):List AV:=[I e.fr,I e.to,I e.jump,I e.wt]
theorem Edge.len(e:Edge):e.c.length=4:=rfl
def wi(a b c:Int):Bool:=decide (b<=a/\a<=c)
theorem wi_t{a b c:Int}(h:wi a b c=true):b<=a/\a<=c:=xon h
theorem xcp(d:Nat)(a b c:Int)(m:Mem):x7y (x7v (d+1)) xf [I a,I b,I c] m=some (B (wi a b c),m):=by
 refine call0 rfl (m':=⟨[],1⟩) ?_ rfl
 rw[x6q]
 unfold x47 x3c wi
 by_cases h:b<=a<;>by_cases h2:a<=c<;>simp[h,h2,mem0]
theorem xc1(d:Nat)(a b c:Int)(m:Mem):x7y (x7v (d+1)) xe [I a,I b,I c] m=some (B (wi a b c),m):=by
 refine call0 rfl (m':=⟨[],1⟩) ?_ rfl
 rw[x6j]
 unfold x3p x2w wi
 by_cases h:b<=a<;>by_cases h2:a<=c<;>simp[h,h2,mem0]
theorem x8q:Try.prog.underlying x7=some (.slice x95):=by kernel_rfl
theorem xcq:xbk=[I 0]:=by kernel_rfl
end Go.Ix
