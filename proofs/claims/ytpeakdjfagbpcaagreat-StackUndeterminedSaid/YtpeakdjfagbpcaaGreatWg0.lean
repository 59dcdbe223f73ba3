import Derived.Test.YtpeakdjfagbpcaaGreatFxCall
import Derived.Test.YtpeakdjfagbpcaaGreatFxOps
import Derived.Laws.Strings
set_option linter.unusedSimpArgs false
namespace Go.Ix
open Go.Proofs
variable{R:Type}{P:Program}{m:Mem}
@[simp] theorem xte(x y:Int):sAdd (I x) (I y)=some (I (w64 (x+y))):=_root_.id rfl
@[simp] theorem xup(x y:Int):sSub (I x) (I y)=some (I (w64 (x-y))):=_root_.id rfl
@[simp] theorem sMul_I(x y:Int):sMul (I x) (I y)=some (I (w64 (x*y))):=_root_.id rfl
@[simp] theorem xry(x y:Int):sLt (I x) (I y)=some (B (decide (x<y))):=_root_.id rfl
@[simp] theorem sLe_I(x y:Int):sLe (I x) (I y)=some (B (decide (x<=y))):=_root_.id rfl
@[simp] theorem xx0(x y:Int):sGt (I x) (I y)=some (B (decide (y<x))):=_root_.id rfl
@[simp] theorem sGe_I(x y:Int):sGe (I x) (I y)=some (B (decide (y<=x))):=_root_.id rfl
@[simp] theorem sEq_I(x y:Int):sEq (I x) (I y)=some (B (decide (x=y))):=_root_.id rfl
@[simp] theorem sNe_I(x y:Int):sNe (I x) (I y)=some (B (!decide (x=y))):=_root_.id rfl
@[simp] theorem sNeg_I(x:Int):sNeg (I x)=some (I (w64 (0-x))):=_root_.id rfl
@[simp] theorem sNot_B(b:Bool):sNot (B b)=some (B (!b)):=_root_.id rfl
@[simp] theorem x10t(x y:Int):sMin (I x) (I y)=some (I (if y<x then y else x)):=_root_.id rfl
@[simp] theorem sMax_I(x y:Int):sMax (I x) (I y)=some (I (if y > x then y else x)):=_root_.id rfl
theorem sQuo_I{x y:Int}(h:y≠0):sQuo (I x) (I y)=some (I (w64 (x.tdiv y))):=by simp[sQuo,h]
theorem sRem_I{x y:Int}(h:y≠0):sRem (I x) (I y)=some (I (x.tmod y)):=by simp[sRem,h]
@[simp] theorem x134(c:Bool)(a b:AV):xrp (B c) a b=some (bif c then a else b):=_root_.id rfl
@[simp] theorem xrw(a b:Option R):xr7 (B true) a b=a:=_root_.id rfl
@[simp] theorem xtc(a b:Option R):xr7 (B false) a b=b:=_root_.id rfl
@[simp] theorem sW_t(b:Bool):sW (B b) true=b:=by cases b<;>rfl
@[simp] theorem sW_f(b:Bool):sW (B b) false=!b:=by cases b<;>rfl
@[simp] theorem sW_U(w:Bool):sW U w=false:=_root_.id rfl
@[simp] theorem sExt_tup(l:List AV)(i:Nat):sExt (.tup l) i=l[i]?:=_root_.id rfl
@[simp] theorem x10u(x:Int):(I x).cells=[I x]:=_root_.id rfl
@[simp] theorem cells_B(x:Bool):(B x).cells=[B x]:=_root_.id rfl
@[simp] theorem x135(l:List AV):(AV.agg l).cells=l:=_root_.id rfl
@[simp] theorem cells_slit(l:List AV)(n:Nat)(x:Bool):(AV.slit l n x).cells=[.slit l n x]:=_root_.id rfl
@[simp] theorem cells_sref(id:Id)(ver off n z:Nat)(f:Bool):(AV.sref id ver off n z f).cells=[.sref id ver off n z f]:=_root_.id rfl
@[simp] theorem cells_nilS:(nilS).cells=[nilS]:=_root_.id rfl
@[simp] theorem one_I(x:Int):(I x).one=true:=_root_.id rfl
@[simp] theorem one_B(x:Bool):(B x).one=true:=_root_.id rfl
@[simp] theorem one_slit(l:List AV)(n:Nat)(x:Bool):(AV.slit l n x).one=true:=_root_.id rfl
@[simp] theorem one_sref(id:Id)(ver off n z:Nat)(f:Bool):(AV.sref id ver off n z f).one=true:=_root_.id rfl
@[simp] theorem one_nilS:(nilS).one=true:=_root_.id rfl
@[simp] theorem one_clo(f:FuncId)(l:List AV):(AV.clo f l).one=true:=_root_.id rfl
def still1:AV->Bool
 | .sc _ | .slit .. | .plit _=>true
 |_=>false
def still:AV->Bool
 | .sc _ | .slit .. | .plit _=>true
 | .agg l=>l.all still1
 | .clo _ l=>l.all still1
 |_=>false
@[simp] theorem still1_sc(v:Value):still1 (.sc v)=true:=_root_.id rfl
@[simp] theorem still1_slit(l:List AV)(n:Nat)(x:Bool):still1 (.slit l n x)=true:=_root_.id rfl
@[simp] theorem still_sc(v:Value):still (.sc v)=true:=_root_.id rfl
@[simp] theorem still_slit(l:List AV)(n:Nat)(x:Bool):still (.slit l n x)=true:=_root_.id rfl
@[simp] theorem still_agg(l:List AV):still (.agg l)=l.all still1:=_root_.id rfl
@[simp] theorem still_clo(f:FuncId)(l:List AV):still (.clo f l)=l.all still1:=_root_.id rfl
theorem xyo{a:AV}(objs:Id->Option Ob)(k:Nat)(h:still1 a=true):frz objs (k+1) a=some a:=by
 cases a<;>simp_all [frz,still1]
theorem xx1{f:AV->Option AV}:∀{l:List AV},(∀a∈l,f a=some a)->l.mapM f=some l
 |[],_=>rfl
 |a::l,h=>by
  rw[x1fq,h a (x1f7 ..),xx1 λb hb=>h b (x1f6 _ hb)]
  rfl
theorem xtu{a:AV}(objs:Id->Option Ob)(k:Nat)(h:still a=true):frz objs (k+2) a=some a:=by
 cases a with
 |agg l=>
  simp only[still,x1fa]at h
  have:l.mapM (frz objs (k+1))=some l:=xx1 λb hb=>xyo objs k (h b hb)
  show(l.mapM (frz objs (k+1))).map AV.agg=_
  rw[this];rfl
 |clo f l=>
  simp only[still,x1fa]at h
  have:l.mapM (frz objs (k+1))=some l:=xx1 λb hb=>xyo objs k (h b hb)
  show(l.mapM (frz objs (k+1))).map (AV.clo f)=_
  rw[this];rfl
 |_=>first|(exact xyo objs (k+1) rfl)|(simp[still]at h)
theorem x136{a:AV}(objs:Id->Option Ob)(k:Nat)(h:still1 a=true):xrk objs (k+1) a=[]:=by
 cases a<;>simp_all [xrk,still1]
theorem x1aa{a:AV}(objs:Id->Option Ob)(k:Nat)(h:still a=true):xrk objs (k+2) a=[]:=by
 cases a with
 |agg l=>
  simp only[still,x1fa]at h
  show l.flatMap (xrk objs (k+1))=[]
  rw[x1i9]
  exact λb hb=>x136 objs k (h b hb)
 |clo f l=>
  simp only[still,x1fa]at h
  show l.flatMap (xrk objs (k+1))=[]
  rw[x1i9]
  exact λb hb=>x136 objs k (h b hb)
 |_=>first|(exact x136 objs (k+1) rfl)|(simp[still]at h)
theorem x10v{l:List AV}(objs:Id->Option Ob)(h:l.all still=true):l.mapM (frz objs deep)=some l:=
 xx1 λa ha=>xtu objs 4 (x1fa.mp h a ha)
theorem x137{l:List AV}(objs:Id->Option Ob)(h:l.all still=true):l.flatMap (xrk objs deep)=[]:=by
 rw[x1i9]
 exact λa ha=>x1aa objs 4 (x1fa.mp h a ha)
theorem call0{call:xr5}{f:FuncId}{l:List AV}{m m':Mem}{r:AV}(hl:l.all still=true)(h:call [] f l mem0=some (r,m'))(hr:still r=true):xr8 call f l m=some (r,m):=by
 unfold xr8
 rw[x10v _ hl]
 simp only[h]
 rw[show frz m'.get deep r=some r from xtu _ 4 hr,x137 _ hl]
 rfl
theorem call0_tup{call:xr5}{f:FuncId}{l:List AV}{m m':Mem}{r:List AV}(hl:l.all still=true)(h:call [] f l mem0=some (.tup r,m'))(hr:r.all still=true):xr8 call f l m=some (.tup r,m):=by
 unfold xr8
 rw[x10v _ hl]
 simp only[h]
 have:frz m'.get deep (.tup r)=some (.tup r):=by
  have h2:r.mapM (frz m'.get 5)=some r:=xx1 λa ha=>xtu _ 3 (x1fa.mp hr a ha)
  show(r.mapM (frz m'.get 5)).map AV.tup=_
  rw[h2];rfl
 rw[this,x137 _ hl]
 rfl
def Ans(call:xr5)(f:FuncId)(l:List AV)(r:AV):Prop:=∃m',call [] f l mem0=some (r,m')
theorem Ans.call0{call:xr5}{f:FuncId}{l:List AV}{m:Mem}{r:AV}(h:Ans call f l r)(hl:l.all still=true)(hr:still r=true):xr8 call f l m=some (r,m):=
 let⟨_,h⟩:=h;Go.Ix.call0 hl h hr
theorem Ans.call0_tup{call:xr5}{f:FuncId}{l:List AV}{m:Mem}{r:List AV}(h:Ans call f l (.tup r))(hl:l.all still=true)(hr:r.all still=true):xr8 call f l m=some (.tup r,m):=
 let⟨_,h⟩:=h;Go.Ix.call0_tup hl h hr
def Sl{α:Type}(enc:α->List AV)(a:AV)(l:List α):Prop:=(a=nilS/\l=[])\/∃x,a=.slit (l.flatMap enc) l.length x
variable{α:Type}{enc:α->List AV}{z:Nat}{a:AV}{l:List α}
theorem xu2(hz:∀x,(enc x).length=z):∀l:List α,(l.flatMap enc).length=l.length*z
 |[]=>by simp
 |x::l=>by simp only[x1fo,x1gl,hz,xu2 hz l,x1fi,x1fx];omega
theorem x10w(hz:∀x,(enc x).length=z):∀(l:List α) (k:Nat),(l.flatMap enc).drop (k*z)=(l.drop k).flatMap enc
 |l,0=>by simp
 |[],k+1=>by simp
 |x::l,k+1=>by
  rw[x1fo,x1fx,x1i0,x1g4 (by rw[hz];omega),x1gp,hz,Nat.add_sub_cancel,x10w hz l k,x1fk]
theorem xsj{l:List α}{k:Nat}(h:k<l.length):l.drop k=l[k]::l.drop (k+1):=List.drop_eq_getElem_cons h
theorem xtf{l r:List α}{x:α}{k:Nat}(h:l.drop k=x::r):∃hk:k<l.length,l[k]=x/\l.drop (k+1)=r:=by
 have hk:k<l.length:=by
  rcases x1g9 k l.length with h'|h'
  .exact h'
  .rw[x1g4 h']at h;cases h
 rw[xsj hk]at h
 injection h with he hd
 exact⟨hk,he,hd⟩
theorem Sl.still1(h:Sl enc a l):still1 a=true:=by
 rcases h with ⟨rfl,_⟩|⟨x,rfl⟩<;>rfl
theorem Sl.still(h:Sl enc a l):still a=true:=by
 rcases h with ⟨rfl,_⟩|⟨x,rfl⟩<;>rfl
theorem Sl.clean(h:Sl enc a l):clean a=true:=by
 rcases h with ⟨rfl,_⟩|⟨x,rfl⟩<;>rfl
theorem Sl.clean1(h:Sl enc a l):clean1 a=true:=by
 rcases h with ⟨rfl,_⟩|⟨x,rfl⟩<;>rfl
theorem Sl.cells(h:Sl enc a l):a.cells=[a]:=by
 rcases h with ⟨rfl,_⟩|⟨x,rfl⟩<;>rfl
theorem Sl.one(h:Sl enc a l):a.one=true:=by
 rcases h with ⟨rfl,_⟩|⟨x,rfl⟩<;>rfl
theorem Sl.tX(h:Sl enc a l):tX a=some []:=by
 rcases h with ⟨rfl,_⟩|⟨x,rfl⟩<;>rfl
theorem Sl.lit(l:List α)(x:Bool):Sl enc (.slit (l.flatMap enc) l.length x) l:=Or.inr ⟨x,rfl⟩
theorem Sl.elems(hz:∀x,(enc x).length=z)(h:Sl enc a l)(objs:Id->Option Ob):elems objs z a=some (l.flatMap enc,l.length):=by
 rcases h with ⟨rfl,rfl⟩|⟨x,rfl⟩
 .rfl
 .have h1:=xu2 hz l
  simp[Ix.elems,h1,x1f8]
theorem xxt{t e:TypeId}(ht:P.underlying t=some (.slice e)):sLen P t nilS=some (I 0):=by
 have:xrl P (Builtin.len_ #[t] 0 #[Value.slice none 0 0])=some (.int .i64 0):=by
  simp[Builtin.len_,underlying,program,Bind.bind,Sem.bind,xrl,Pure.pure,ht,goInt]
 show(xrl P (Builtin.len_ #[t] 0 #[Value.slice none 0 0])).map xsq=_
 rw[this];rfl
theorem Sl.len{t e:TypeId}(ht:P.underlying t=some (.slice e))(h:Sl enc a l):sLen P t a=some (I l.length):=by
 rcases h with ⟨rfl,rfl⟩|⟨x,rfl⟩
 .exact xxt ht
 .rfl
theorem Sl.ix(hz:∀x,(enc x).length=z)(h:Sl enc a l){k:Nat}(hk:k<l.length):sIx z a (I k)=some (.plit ((l.drop k).flatMap enc)):=by
 rcases h with ⟨rfl,rfl⟩|⟨x,rfl⟩
 .simp at hk
 .have:(0:Int)<=(k:Int)/\(k:Int)<(l.length:Int):=by omega
  simp[sIx,asI,x10w hz,hk]
theorem xsy{m:Mem}(hz:∀x,(enc x).length=z)(h0:0<z){k:Nat}(hk:k<l.length):sLd true z (.plit ((l.drop k).flatMap enc)) m=some (.agg (enc l[k])):=by
 have h1:=hz l[k]
 rw[xsj hk,x1fo]
 simp only[sLd]
 have hne:(enc l[k]++(l.drop (k+1)).flatMap enc).isEmpty=false:=by
  cases he:enc l[k]with
  |nil=>rw[he]at h1;simp at h1;omega
  |cons=>rfl
 rw[hne]
 simp only[x1fu,x1fm,rd]
 rw[x1ez trivial,x1ez (by rw[x1gl];omega),x1ic (by omega),x1f8 (by omega)]
@[simp] theorem xs5(off:Nat)(id:Id)(ver o:Nat):sFA off (.ptr id ver o)=some (.ptr id ver (o+off)):=_root_.id rfl
@[simp] theorem xvn(off:Nat)(cs:List AV):sFA off (.plit cs)=some (.plit (cs.drop off)):=_root_.id rfl
@[simp] theorem ld_cons{m:Mem}(x:AV)(cs:List AV):sLd false 1 (.plit (x::cs)) m=some x:=_root_.id rfl
theorem ld_ptr{m:Mem}{id:Id}{g:Bool}{z off ver:Nat}{cs:List AV}{fz:Bool}(h:m.get id=some (.row cs ver fz)):sLd g z (.ptr id ver off) m=rd g z (cs.drop off):=by
 simp[sLd,h]
@[simp] theorem xvo(g:Bool)(z:Nat)(x:AV)(cs:List AV)(m:Mem):sLd g z (.plit (x::cs)) m=rd g z (x::cs):=_root_.id rfl
theorem st_ptr{m:Mem}{id:Id}{z off ver:Nat}{cs:List AV}{x:AV}{k:Mem->Option R}(h:m.get id=some (.row cs ver false))(h1:x.cells.length=z)(h2:off+z<=cs.length)(h3:x.cells.all AV.one=true) :
 sSt z (.ptr id ver off) x m k=k (m.set id (.row (xs3 cs off x.cells) ver false)):=by
 simp only[sSt,h]
 rw[x1ez ⟨trivial,h1,h2,h3⟩]
@[simp] theorem Mem.next_set(m:Mem)(i:Id)(o:Ob):(m.set i o).next=m.next:=_root_.id rfl
@[simp] theorem Mem.next_new(m:Mem)(i:Id)(o:Ob):(m.new i o).next=m.next:=_root_.id rfl
theorem bind_cg{α β:Type}{x y:Option α}{f:α->Option β}(h:x=y):x.bind f=y.bind f:=by rw[h]
theorem cond_cg{α:Type}{x y:Bool}{a b:α}(h:x=y):cond x a b=cond y a b:=by rw[h]
theorem sCond_cg{x y:AV}{a b:Option R}(h:x=y):xr7 x a b=xr7 y a b:=by rw[h]
attribute [congr] bind_cg cond_cg sCond_cg
theorem xr9{α β:Type}(a:α)(f:α->Option β):(some a).bind f=f a:=_root_.id rfl
theorem xre{α:Type}(a b:α):cond true a b=a:=_root_.id rfl
theorem xxu{α:Type}(a b:α):cond false a b=b:=_root_.id rfl
attribute [simp high] xr9 xre xxu
attribute [simp ↓ high] xrw xtc xr9 xre xxu
@[simp ↓] theorem xu9(cs:List AV)(id:Id)(m:Mem)(k:AV->Mem->Option R):xrs cs id m k=k (.ptr id 0 0) (m.new id (.row cs 0 false)):=_root_.id rfl
def xsz(z ver off:Nat)(x:AV):Option Ob->Option Ob
 |some (.row cs v false)=>bif decide (v=ver/\x.cells.length=z/\off+z<=cs.length/\(x.cells.all AV.one)=true)then some (.row (xs3 cs off x.cells) v false)else none
 |_=>none
theorem xs9(z:Nat)(id:Id)(ver off:Nat)(x:AV)(m:Mem)(k:Mem->Option R):sSt z (.ptr id ver off) x m k=(xsz z ver off x (m.get id)).bind λo=>k (m.set id o):=by
 cases h:m.get id with
 |none=>simp only[sSt,h];rfl
 |some o=>
  cases o with
  |map es=>simp only[sSt,h];rfl
  |lp d=>simp only[sSt,h];rfl
  |row cs v f=>
   cases f with
   |true=>simp only[sSt,h];rfl
   |false=>
    simp only[sSt,h,xsz]
    by_cases hc:v=ver/\x.cells.length=z/\off+z<=cs.length/\(x.cells.all AV.one)=true
    .rw[x1ez hc,x1fy hc];rfl
    .rw[x1ey hc,x1h4 hc];rfl
@[simp ↓] theorem xzk(c:AV)(w:Bool)(x:AV)(m:Mem)(k:AV×Mem->Option R):sGv c w x m k=(bif sW c w then some (x,m)else some (U,m)).bind k:=_root_.id rfl
@[simp ↓] theorem xzl(c:AV)(w:Bool)(x:Option AV)(m:Mem)(k:AV×Mem->Option R):sGo c w x m k=(bif sW c w then x.bind λv=>some (v,m)else some (U,m)).bind k:=_root_.id rfl
@[simp ↓] theorem x10x(c:AV)(w:Bool)(x:Option (AV×Mem))(m:Mem)(k:AV×Mem->Option R):sGp c w x m k=(bif sW c w then x.bind λp=>some (p.1,p.2)else some (U,m)).bind k:=_root_.id rfl
theorem xuj(z ver off:Nat)(x:AV)(cs:List AV)(v:Nat):xsz z ver off x (some (.row cs v false))=bif decide (v=ver/\x.cells.length=z/\off+z<=cs.length/\(x.cells.all AV.one)=true)then some (.row (xs3 cs off x.cells) v false)else none:=_root_.id rfl
theorem xwd(x:AV)(id:Id)(m:Mem)(k:AV->Mem->Option R):sBox x id m k=bif x.cells.all AV.one then k (.ptr id 0 0) (m.new id (.row x.cells 0 false))else none:=by
 unfold sBox
 split
 .rename_i e;rw[e];rfl
 .rename_i e;rw[x1k9]at e;rw[e];rfl
def xwe(g:Bool)(z ver off:Nat):Option Ob->Option AV
 |some (.row cs v _)=>bif Nat.beq v ver then rd g z (cs.drop off)else none
 |_=>none
theorem xrh(g:Bool)(z:Nat)(id:Id)(ver off:Nat)(m:Mem):sLd g z (.ptr id ver off) m=xwe g z ver off (m.get id):=by
 cases h:m.get id with
 |none=>simp only[sLd,h];rfl
 |some o=>
  cases o with
  |map es=>simp only[sLd,h];rfl
  |lp d=>simp only[sLd,h];rfl
  |row cs v f=>
   simp only[sLd,h,xwe]
   by_cases hc:v=ver
   .subst hc;simp
   .rw[x1ey hc,show Nat.beq v ver=false from by rw[x1gd];intro x;exact hc (x1fp x)];rfl
theorem xri(g:Bool)(z ver off:Nat)(cs:List AV)(v:Nat)(f:Bool):xwe g z ver off (some (.row cs v f))=bif Nat.beq v ver then rd g z (cs.drop off)else none:=_root_.id rfl
theorem rd_t(z:Nat)(cs:List AV):rd true z cs=bif decide (z<=cs.length)then some (.agg (cs.take z))else none:=by
 unfold rd
 by_cases h:z<=cs.length<;>simp[h]
theorem rd_f(z:Nat)(a:AV)(cs:List AV):rd false z (a::cs)=some a:=_root_.id rfl
theorem rd_1(a:AV)(cs:List AV):rd true 1 (a::cs)=some (.agg [a]):=by rw[rd_t,x1fi,x1fy (by omega)];rfl
theorem rd_2(a b:AV)(cs:List AV):rd true 2 (a::b::cs)=some (.agg [a,b]):=by rw[rd_t];simp only[x1fi];rw[x1fy (by omega)];rfl
theorem rd_3(a b c:AV)(cs:List AV):rd true 3 (a::b::c::cs)=some (.agg [a,b,c]):=by rw[rd_t];simp only[x1fi];rw[x1fy (by omega)];rfl
theorem rd_4(a b c d:AV)(cs:List AV):rd true 4 (a::b::c::d::cs)=some (.agg [a,b,c,d]):=by rw[rd_t];simp only[x1fi];rw[x1fy (by omega)];rfl
theorem xx2(ver:Nat)(a x:AV):xsz 1 ver 0 x (some (.row [a] ver false))=bif decide (x.cells.length=1/\(x.cells.all AV.one)=true)then some (.row x.cells ver false)else none:=by
 rw[xuj]
 by_cases h:x.cells.length=1<;>simp[h,xs3]
theorem x138(ver:Nat)(a b c d a' b' c' d':AV):xsz 4 ver 0 (.agg [a',b',c',d']) (some (.row [a,b,c,d] ver false))=bif[a',b',c',d'].all AV.one then some (.row [a',b',c',d'] ver false)else none:=by
 rw[xuj]
 simp[xs3]
theorem splice_eq(cs:List AV)(off:Nat)(vs:List AV):xs3 cs off vs=cs.take off++(vs++cs.drop (off+vs.length)):=_root_.id rfl
attribute [simp high] rd_1 rd_2 rd_3 rd_4 x138
attribute [simp] xrh xri xuj rd_t rd_f splice_eq Mem.get_set Mem.get_new xrc
attribute [simp ↓] xs9 xwd
def intE(x:Int):List AV:=[I x]
theorem xrm(x:Int):(intE x).length=1:=_root_.id rfl
theorem Sl.ixI(hz:∀x,(enc x).length=z)(h:Sl enc a l){k:Int}(h0:0<=k)(hk:k<l.length):sIx z a (I k)=some (.plit ((l.drop k.toNat).flatMap enc)):=by
 have:=h.ix hz (k:=k.toNat) (by omega)
 rwa[x1ge h0]at this
def at0(l:List Int)(k:Nat):Int:=l.getD k 0
theorem xrn{l:List Int}{k:Nat}(h:k<l.length):at0 l k=l[k]:=by
 unfold at0;rw[x1fd,x1fs h];rfl
theorem xs2{m:Mem}{l:List Int}{k:Nat}(hk:k<l.length):sLd false 1 (.plit ((l.drop k).flatMap intE)) m=some (I (at0 l k)):=by
 rw[xsj hk,x1fo,xrn hk]
 rfl
theorem mkM_0(l:List AV):mkM 0 l=bif l.all clean then 2 else 0:=by
 unfold mkM
 cases h:l.all clean<;>simp[h]
theorem mkM_1(l:List AV):mkM 1 l=bif l.all clean then 2 else 0:=by
 unfold mkM
 cases h:l.all clean<;>simp[h]
@[simp] theorem mkM_3(l:List AV):mkM 3 l=1:=_root_.id rfl
@[simp] theorem mkM_4(l:List AV):mkM 4 l=1:=_root_.id rfl
@[simp] theorem clean_sc(v:Value):clean (.sc v)=true:=_root_.id rfl
@[simp] theorem clean_agg(l:List AV):clean (.agg l)=l.all clean1:=_root_.id rfl
@[simp] theorem clean_slit(l:List AV)(n:Nat)(x:Bool):clean (.slit l n x)=true:=_root_.id rfl
@[simp] theorem clean1_sc(v:Value):clean1 (.sc v)=true:=_root_.id rfl
@[simp] theorem clean1_slit(l:List AV)(n:Nat)(x:Bool):clean1 (.slit l n x)=true:=_root_.id rfl
@[simp] theorem ble_2:Nat.ble 1 2=true:=_root_.id rfl
@[simp] theorem ble_1:Nat.ble 1 1=true:=_root_.id rfl
@[simp] theorem cAp_R2(a:AV):cAp none (tR a) 2=true:=by
  unfold tR;split<;>rfl
@[simp] theorem cAp_R1(a:AV):cAp none (tR a) 1=true:=by
  unfold tR;split<;>rfl
attribute [simp] mkM_0 mkM_1
theorem xw0{call:xr5}{f:FuncId}{l:List AV}{m m':Mem}{r r':AV}(hl:l.all still=true)(h:call [] f l mem0=some (r,m'))(hr:frz m'.get deep r=some r'):xr8 call f l m=some (r',m):=by
 unfold xr8
 rw[x10v _ hl]
 simp only[h,hr]
 rw[x137 _ hl]
 rfl
theorem xvp{objs:Id->Option Ob}{id:Id}{cs:List AV}{ver off n z k:Nat}{f x:Bool}(h:objs id=some (.row cs ver f))(hl:off+n*z<=cs.length)(hs:((cs.drop off).take (n*z)).all still1=true) :
 frz objs (k+2) (.sref id ver off n z x)=some (.slit ((cs.drop off).take (n*z)) n false):=by
 have h2:((cs.drop off).take (n*z)).mapM (frz objs (k+1))=some ((cs.drop off).take (n*z)):=xx1 λa ha=>xyo objs k (x1fa.mp hs a ha)
 simp only[frz,h]
 rw[x1ez ⟨trivial,hl⟩]
 show((((cs.drop off).take (n*z)).mapM (frz objs (k+1))).map λl=>AV.slit l n false)=_
 rw[h2];rfl
theorem xzm{size bytes:Nat}{id:Id}{src:List AV}{q:Nat}{m:Mem}{k:AV->Mem->Option R}(h:xrq q bytes) :
 sApp size bytes id (some (src,q)) (.slit [] 0 true) m k=bif decide (q=0)then k (.slit [] 0 true) m else k (.sref id 0 0 q size true) (m.new id (.row src 0 false)):=by
 simp only[sApp,x1h7,x1f9,List.take_nil,x1gp]
 rw[x1ez (x1hn _)]
 by_cases hq:q=0
 .rw[x1ez hq,x1fy hq];rfl
 .rw[x1ey hq,x1ez h,x1h4 hq];rfl
theorem mkLit_nil{z:List AV}{size:Nat}{id:Id}{m:Mem}{k:AV->Mem->Option R}:xs0 z [] 0 size id m k=k (.slit [] 0 true) m:=by
 simp[xs0,xsd,xsc]
theorem xv6(he:∀x,(enc x).all still1=true):∀l:List α,(l.flatMap enc).all still1=true
 |[]=>rfl
 |x::l=>by rw[x1fo,List.all_append,he,xv6 he l];rfl
theorem xto(x:Int):(intE x).all still1=true:=rfl
attribute [simp ↓] mkLit_nil
theorem mkLit_one{z:AV}{x:AV}{id:Id}{m:Mem}{k:AV->Mem->Option R}(h1:x.cells=[x])(h2:x.one=true)(h3:clean1 x=true):xs0 [z] [(0,1,x)] 1 1 id m k=k (.slit [x] 1 true) m:=by
 simp[xs0,xsd,xsc,h1,h2,h3,x1hb]
@[simp ↓] theorem xwf{z:AV}{x:Int}{id:Id}{m:Mem}{k:AV->Mem->Option R}:xs0 [z] [(0,1,I x)] 1 1 id m k=k (.slit [I x] 1 true) m:=mkLit_one rfl rfl rfl
def Gr{α:Type}(z:Nat)(enc:α->List AV)(u t:Nat)(m:Mem)(a:AV)(l:List α):Prop:=
 (a=nilS/\l=[])\/∃s ver,a=.sref (u,s,t) ver 0 l.length z true/\m.get (u,s,t)=some (.row (l.flatMap enc) ver false)
theorem Gr.nil{u t:Nat}{m:Mem}:Gr z enc u t m nilS []:=Or.inl ⟨rfl,rfl⟩
theorem Gr.frame{u t:Nat}{m m':Mem}(h:Gr z enc u t m a l)(hm:∀s,m'.get (u,s,t)=m.get (u,s,t)):Gr z enc u t m' a l:=by
 rcases h with h|⟨s,ver,h1,h2⟩
 .exact Or.inl h
 .exact Or.inr ⟨s,ver,h1,by rw[hm];exact h2⟩
theorem Gr.app(hz:∀x,(enc x).length=z)(h0:0<z){u t s0 bytes:Nat}{m:Mem}(hr:xrq (l.length+1) bytes)(h:Gr z enc u t m a l)(x:α) :
 ∃a' m',(∀{R:Type} (k:AV->Mem->Option R),sApp z bytes (u,s0,t) (some (enc x,1)) a m k=k a' m')/\Gr z enc u t m' a' (l++[x])/\m'.next=m.next/\∀j:Id,j.2.2≠t->m'.get j=m.get j:=by
 rcases h with ⟨rfl,rfl⟩|⟨s,ver,rfl,hg⟩
 .refine⟨.sref (u,s0,t) 0 0 1 z true,m.new (u,s0,t) (.row (enc x) 0 false),λk=>?_,Or.inr ⟨s0,0,rfl,by simp⟩,rfl,λj hj=>?_⟩
  .simp only[sApp]
   rw[x1ey (by omega),x1ez (by simpa using hr)]
  .rw[Mem.get_new,x1ey (by rintro rfl;exact hj rfl)]
 .have hl:=xu2 hz l
  refine⟨.sref (u,s,t) (ver+1) 0 (l.length+1) z true,m.set (u,s,t) (.row (l.flatMap enc++enc x) (ver+1) false),λk=>?_,Or.inr ⟨s,ver+1,by simp,by simp⟩,rfl,λj hj=>?_⟩
  .simp only[sApp,hg]
   rw[x1ez ⟨trivial,trivial,by omega,hr⟩,x1ey (by omega),x1ey (by rw[hl,x1fx];omega),x1f0,x1f8 (by omega)]
  .rw[Mem.get_set,x1ey (by rintro rfl;exact hj rfl)]
theorem Gr.frz(hz:∀x,(enc x).length=z)(hs:∀x,(enc x).all still1=true){u t:Nat}{m:Mem}(h:Gr z enc u t m a l):∃a',Sl enc a' l/\frz m.get deep a=some a':=by
 rcases h with ⟨rfl,rfl⟩|⟨s,ver,rfl,hg⟩
 .exact⟨nilS,Or.inl ⟨rfl,rfl⟩,rfl⟩
 .have hl:=xu2 hz l
  refine⟨.slit (l.flatMap enc) l.length false,Sl.lit l false,?_⟩
  have:=xvp (objs:=m.get) (id:=(u,s,t)) (cs:=l.flatMap enc) (ver:=ver) (off:=0) (n:=l.length) (z:=z) (k:=4) (f:=false) (x:=true) hg (by omega) (by
   rw[x1f0,x1f8 (by omega)];exact xv6 hs l)
  rw[x1f0,x1f8 (by omega)]at this
  exact this
theorem frz_tup{objs:Id->Option Ob}{l:List AV}(h:l.all still=true):Go.Ix.frz objs deep (.tup l)=some (.tup l):=by
 have h2:l.mapM (Go.Ix.frz objs 5)=some l:=xx1 λa ha=>xtu _ 3 (x1fa.mp h a ha)
 show(l.mapM (Go.Ix.frz objs 5)).map AV.tup=_
 rw[h2];rfl
theorem xrg:NN=1048576:=rfl
structure Edge where
 fr:Int
 to:Int
 jump:Int
 wt:Int
def Edge.c(e:Edge):List AV:=[I e.fr,I e.to,I e.jump,I e.wt]
theorem Edge.len(e:Edge):e.c.length=4:=rfl
def wi(a b c:Int):Bool:=decide (b<=a/\a<=c)
theorem wi_t{a b c:Int}(h:wi a b c=true):b<=a/\a<=c:=x1gx h
theorem xxv(d:Nat)(a b c:Int)(m:Mem):xr8 (xr4 (d+1)) xi [I a,I b,I c] m=some (B (wi a b c),m):=by
 refine call0 rfl (m':=⟨[],1⟩) ?_ rfl
 rw[xl9]
 unfold xdg x86 wi
 by_cases h:b<=a<;>by_cases h2:a<=c<;>simp[h,h2,mem0]
theorem xzn(d:Nat)(a b c:Int)(m:Mem):xr8 (xr4 (d+1)) xq [I a,I b,I c] m=some (B (wi a b c),m):=by
 refine call0 rfl (m':=⟨[],1⟩) ?_ rfl
 rw[xni]
 unfold xd6 xck wi
 by_cases h:b<=a<;>by_cases h2:a<=c<;>simp[h,h2,mem0]
theorem xua:Tryz.prog.underlying xg=some (.slice xl0):=by kernel_rfl
theorem xru:Tryz.prog.underlying x4=some (.slice xs6):=by kernel_rfl
theorem xxw:xe=[I 0,I 0,I 0,I 0]:=by kernel_rfl
theorem xso:xse=[I 0]:=by kernel_rfl
theorem w_Size(d:Nat)(a:Int)(m:Mem)(h1:-9223372036854775808<a)(h2:a<=9223372036854775807):xr8 (xr4 (d+1)) x14 [I a] m=some (I (a.natAbs:Int),m):=by
 refine call0 rfl (m':=⟨[],1⟩) ?_ rfl
 rw[xlp]
 unfold xdv x94
 simp(disch:=omega) [mem0,xrc]
 split<;>omega
theorem w_size(d:Nat)(a:Int)(m:Mem)(h1:-9223372036854775808<a)(h2:a<=9223372036854775807):xr8 (xr4 (d+1)) x44 [I a] m=some (I (a.natAbs:Int),m):=by
 refine call0 rfl (m':=⟨[],1⟩) ?_ rfl
 rw[xnd]
 unfold xda xcc
 simp(disch:=omega) [mem0,xrc]
 split<;>omega
def xuq(n:Int):Int->List Edge->Int×Int
 |_,[]=>(0,0)
 |i,e::r=>
  bif !(wi e.fr 0 (n-1))||!(wi e.to 0 (n-1))then(i,6)
  else bif decide (e.fr=e.to)then(i,3)
  else bif !(wi e.jump (-1000) 1000)||!(wi e.wt 0 1000)then(i,2)
  else xuq n (i+1) r
def xur(n:Int)(l:List Edge):Int×Int:=
 bif !(wi n 0 200)then(0,2)else bif decide (600<(l.length:Int))then(0,8)else xuq n 0 l
theorem x1ab(d:Nat)(a:Int)(m:Mem):xr8 (xr4 (d+2)) x4w [I a] m=some (B (wi a 0 1000),m):=by
 refine Ans.call0 ?_ rfl rfl
 unfold Ans
 rw[xnj]
 unfold xff xcl
 simp[mem0,xzn]
theorem x1ac(d:Nat)(hs:FHs){n:Int}{ev:AV}{l:List Edge}(h:Sl Edge.c ev l)(hn:0<=n/\n<=200)(hl:l.length<=600):∀(suf:List Edge) (k j:Nat) (m:Mem) (fc:Nat),l.drop k=suf->suf.length<j ->
 m.get (0,0,1)=some (.row [I n,ev] 0 false)->∃m',x67 (xr4 (d+2)) hs 0 j (.ptr (0,0,1) 0 0) ev (I l.length) (I k) m fc=some (.tup [I (xuq n k suf).1,I (xuq n k suf).2],m'):=by
 intro suf
 induction suf with
 |nil=>
  intro k j m fc hd hj hg
  obtain⟨j,rfl⟩:∃i,j=i+1:=⟨j-1,by simp at hj;omega⟩
  have hk:¬((k:Int)<(l.length:Int)):=by have:=x1g2.mp hd;omega
  simp only[x67]
  unfold xbr
  simp[hk,xj4,xuq]
 |cons e r ih=>
  intro k j m fc hd hj hg
  obtain⟨j,rfl⟩:∃i,j=i+1:=⟨j-1,by simp at hj;omega⟩
  obtain⟨hk,he,hd⟩:=xtf hd
  have hk':(k:Int)<(l.length:Int):=by omega
  have ix:=h.ix Edge.len hk
  have ld:=xsy (m:=m) Edge.len (by omega) hk
  rw[he]at ld
  simp only[x67]
  unfold xbr
  simp(disch:=omega) [hg,hk',ix,ld,xxw,Edge.c,xzn]
  cases c1:wi e.fr 0 (n-1)
  .simp[xuq,c1]
  simp(disch:=omega) [hg,xzn]
  cases c2:wi e.to 0 (n-1)
  .simp[xuq,c1,c2]
  simp(disch:=omega)
  by_cases c3:e.fr=e.to
  .simp[xuq,c1,c2,c3]
  simp(disch:=omega) [c3,xzn]
  cases c4:wi e.jump (-1000) 1000
  .simp[xuq,c1,c2,c3,c4]
  simp(disch:=omega) [x1ab]
  cases c5:wi e.wt 0 1000
  .simp[xuq,c1,c2,c3,c4,c5]
  obtain⟨m',h'⟩:=ih (k+1) j ((m.new (0,fc+4,5) (.row [I 0,I 0,I 0,I 0] 0 false)).set (0,fc+4,5) (.row e.c 0 false)) (fc+43) hd (by simp at hj;omega) (by simp[hg])
  simp(disch:=omega) [xuq,c1,c2,c3,c4,c5]
  exact⟨m',h'⟩
theorem x1ad(d:Nat){n:Int}{ev:AV}{l:List Edge}(h:Sl Edge.c ev l)(m:Mem):xr8 (xr4 (d+3)) x2x [.agg [I n,ev]] m=some (.tup [I (xur n l).1,I (xur n l).2],m):=by
 have key:Ans (xr4 (d+3)) x2x [.agg [I n,ev]] (.tup [I (xur n l).1,I (xur n l).2]):=by
  unfold Ans
  rw[xn4]
  unfold xf7 xbs
  simp[mem0,h.one,xzn]
  cases c1:wi n 0 200
  .simp[xur,c1]
  simp[h.len xua]
  by_cases c2:(600:Int)<(l.length:Int)
  .simp[xur,c1,c2]
  obtain⟨m',h'⟩:=x1ac d [] h (wi_t c1) (by omega) l 0 NN ((⟨[],1⟩:Mem).new (0,0,1) (.row [I n,ev] 0 false)) 17 rfl (by rw[xrg];omega) (by simp)
  simp[xur,c1,c2,xj5,h.len xua]
  exact⟨m',h'⟩
 exact key.call0_tup (by simp[h.still1]) rfl
theorem z_pnet:x6q=[I 0,nilS]:=by kernel_rfl
theorem w_open(d:Nat){n:Int}{ev:AV}{l:List Edge}(h:Sl Edge.c ev l)(m:Mem):xr8 (xr4 (d+4)) x2q [.agg [I n,ev]] m=some (.tup [.agg [I n,ev],I (xur n l).2],m):=by
 refine Ans.call0_tup ?_ (by simp[h.still1]) (by simp[h.still1])
 unfold Ans
 rw[xms]
 unfold xex xb0
 simp[mem0,h.one,x1ad _ h,z_pnet,xrr,xsd,sLdP]
abbrev Ints(a:AV)(l:List Int):Prop:=Sl intE a l
def exI(t:List Int)(e:Edge):Int:=at0 t e.to.toNat-at0 t e.fr.toNat+e.jump
def xub(t:List Int):Int->List Edge->Int
 |s,[]=>s
 |s,e::r=>xub t (s+e.wt*((exI t e).natAbs:Int)) r
def TurnsIn(t:List Int):Prop:=∀x∈t,-1000000<=x/\x<=1000000
theorem TurnsIn.get{t:List Int}(h:TurnsIn t)(k:Nat):-1000000<=at0 t k/\at0 t k<=1000000:=by
 unfold at0
 rw[x1fd]
 cases hk:t[k]? with
 |none=>simp
 |some x=>simpa using h x (x1gc hk)
structure EdgeIn (n:Nat) (e:Edge):Prop where
 f0:0<=e.fr
 f1:e.fr<n
 t0:0<=e.to
 t1:e.to<n
 j0:-1000<=e.jump
 j1:e.jump<=1000
 w0:0<=e.wt
 w1:e.wt<=1000
theorem w_excess(d:Nat){e:Edge}{a:AV}{t:List Int}(ha:Ints a t)(he:EdgeIn t.length e)(ht:TurnsIn t)(m:Mem):xr8 (xr4 (d+1)) x43 [.agg e.c,a] m=some (I (exI t e),m):=by
 have h1:=ht.get e.to.toNat
 have h2:=ht.get e.fr.toNat
 obtain⟨f0,f1,t0,t1,j0,j1,w0,w1⟩:=he
 refine Ans.call0 ?_ (by simp[ha.still,Edge.c]) rfl
 unfold Ans
 rw[xne]
 unfold xd9 xcd
 have i1:=ha.ixI xrm t0 t1
 have i2:=ha.ixI xrm f0 f1
 have l1:e.to.toNat<t.length:=by omega
 have l2:e.fr.toNat<t.length:=by omega
 simp(disch:=omega) [Edge.c,i1,i2,mem0,xs2,exI]
theorem exI_in{t:List Int}{n:Nat}{e:Edge}(he:EdgeIn n e)(ht:TurnsIn t):-2001000<=exI t e/\exI t e<=2001000:=by
 have h1:=ht.get e.to.toNat
 have h2:=ht.get e.fr.toNat
 obtain⟨f0,f1,t0,t1,j0,j1,w0,w1⟩:=he
 unfold exI
 omega
theorem term_in{t:List Int}{n:Nat}{e:Edge}(he:EdgeIn n e)(ht:TurnsIn t):0<=e.wt*((exI t e).natAbs:Int)/\e.wt*((exI t e).natAbs:Int)<=2001000000:=by
 have h1:=exI_in he ht
 have h2:((exI t e).natAbs:Int)<=2001000:=by omega
 refine⟨x1ie he.w0 (by omega),?_⟩
 have:=x1iv he.w1 h2 (by omega) (by omega)
 omega
theorem l_cost(d:Nat)(hs:FHs){ev a:AV}{l:List Edge}{t:List Int}(h:Sl Edge.c ev l)(hl:l.length<=600)(ha:Ints a t)(he:∀e∈l,EdgeIn t.length e)(ht:TurnsIn t):∀(suf:List Edge) (k j:Nat) (s:Int) (m:Mem) (fc:Nat),l.drop k=suf->suf.length<j ->
 0<=s->s<=k*2001000000->∃m',x65 (xr4 (d+1)) hs 0 j a (I s) ev (I l.length) (I k) m fc=some (I (xub t s suf),m'):=by
 intro suf
 induction suf with
 |nil=>
  intro k j s m fc hd hj s0 s1
  obtain⟨j,rfl⟩:∃i,j=i+1:=⟨j-1,by simp at hj;omega⟩
  have hk:¬((k:Int)<(l.length:Int)):=by have:=x1g2.mp hd;omega
  simp only[x65]
  unfold xbg
  simp[hk,xiy,xub]
 |cons e r ih=>
  intro k j s m fc hd hj s0 s1
  obtain⟨j,rfl⟩:∃i,j=i+1:=⟨j-1,by simp at hj;omega⟩
  obtain⟨hk,hke,hd⟩:=xtf hd
  have hk':(k:Int)<(l.length:Int):=by omega
  have ix:=h.ix Edge.len hk
  have ld:=xsy (m:=m) Edge.len (by omega) hk
  rw[hke]at ld
  have hee:=he e (hke▸x1fg hk)
  have hx:=exI_in hee ht
  have htm:=term_in hee ht
  have we:=w_excess d ha hee ht
  simp only[Edge.c]at we
  obtain⟨m',h'⟩:=ih (k+1) j (s+e.wt*((exI t e).natAbs:Int)) ((m.new (0,fc+3,7) (.row [I 0,I 0,I 0,I 0] 0 false)).set (0,fc+3,7) (.row e.c 0 false)) (fc+17) hd (by simp at hj;omega) (by omega) (by omega)
  simp only[x65]
  unfold xbg
  simp(disch:=omega) [hk',ix,ld,xxw,Edge.c,we,w_size,ha.clean,xub]
  exact⟨m',h'⟩
def xwg(call:xr5)(f:AV)(p:Int->Bool):Prop:=∀(hs:FHs) (x:Int) (m:Mem),∃n,xsx call hs 2 f [I x] m=some (B (p x),⟨m.hp,n⟩)
def xtl(p:Int->Bool):Int->List Int->Int
 |_,[]=>-1
 |k,x::r=>bif p x then k else xtl p (k+1) r
theorem x16f{p:Int->Bool}:∀{l:List Int} {k:Int},0<=k->(decide (0<=xtl p k l))=l.any p
 |[],k,_=>rfl
 |x::r,k,h=>by
  unfold xtl
  cases c:p x
  .simp only[cond_false,x1hk,c,x1i1];exact x16f (by omega)
  .simp[c,h]
theorem x1ae(d:Nat)(hs:FHs){a f:AV}{l:List Int}{p:Int->Bool}(h:Ints a l)(hl:l.length<1000000)(hf:xwg (xr4 d) f p)(u:Nat):∀(suf:List Int) (k j:Nat) (m:Mem) (fc:Nat),l.drop k=suf->suf.length<j ->
 ∃n,xw (xr4 d) hs u j a f (I l.length) (I k) m fc=some (I (xtl p k suf),⟨m.hp,n⟩):=by
 intro suf
 induction suf with
 |nil=>
  intro k j m fc hd hj
  obtain⟨j,rfl⟩:∃i,j=i+1:=⟨j-1,by simp at hj;omega⟩
  have hk:¬((k:Int)<(l.length:Int)):=by have:=x1g2.mp hd;omega
  simp only[xw]
  unfold x3k
  simp[hk,xaw,xtl]
  exact⟨m.next,rfl⟩
 |cons x r ih=>
  intro k j m fc hd hj
  obtain⟨j,rfl⟩:∃i,j=i+1:=⟨j-1,by simp at hj;omega⟩
  obtain⟨hk,hke,hd⟩:=xtf hd
  have hk':(k:Int)<(l.length:Int):=by omega
  have ix:=h.ix xrm hk
  have e1:at0 l k=x:=by rw[xrn hk,hke]
  obtain⟨n1,h1⟩:=hf hs x m
  obtain⟨n2,h2⟩:=ih (k+1) j ⟨m.hp,n1⟩ (fc+11) hd (by simp at hj;omega)
  simp only[xw]
  unfold x3k
  simp(disch:=omega) [hk',ix,xs2,e1,h1,xtl]
  cases c:p x
  .simp(disch:=omega)
   exact⟨n2,h2⟩
  .simp
theorem x1af(d:Nat)(hs:FHs){a f:AV}{l:List Int}{p:Int->Bool}(h:Ints a l)(hl:l.length<1000000)(hf:xwg (xr4 d) f p)(m:Mem):∃n,xr4 (d+1) hs x1f [a,f] m=some (I (xtl p 0 l),⟨m.hp,n⟩):=by
 obtain⟨n,h'⟩:=x1ae d hs h hl hf m.next l 0 NN ⟨m.hp,m.next+1⟩ 4 rfl (by rw[xrg];omega)
 refine⟨n,?_⟩
 rw[xkk]
 unfold x7s x6w xax
 simp[h.len xru]
 exact h'
theorem x1ag(d:Nat)(hs:FHs){a f:AV}{l:List Int}{p:Int->Bool}(h:Ints a l)(hl:l.length<1000000)(hf:xwg (xr4 d) f p)(m:Mem):∃n,xr4 (d+2) hs xo [a,f] m=some (B (l.any p),⟨m.hp,n⟩):=by
 obtain⟨n,h'⟩:=x1af d hs h hl hf ⟨m.hp,m.next+1⟩
 refine⟨n,?_⟩
 rw[xm3]
 unfold xe9 x9x
 simp only[h',x1it,sGe_I,x16f (x1ft 0)]
theorem xzo(d:Nat){a f:AV}{l:List Int}{p:Int->Bool}(h:Ints a l)(hl:l.length<1000000)(hf:xwg (xr4 d) f p)(hs:still f=true)(m:Mem):xr8 (xr4 (d+2)) xo [a,f] m=some (B (l.any p),m):=by
 obtain⟨n,h'⟩:=x1ag d [] h hl hf mem0
 exact call0 (by simp[h.still,hs]) h' rfl
theorem xsf{σ R:Type}{N:Nat}(X:Nat->Nat->σ->Mem->Nat->R)(Inv:Nat->σ->Mem->Prop)(Q:R->Prop)(hstep:∀n k s m fc,k<N->Inv k s m->(∀s' m' fc',Inv (k+1) s' m'->Q (X n (k+1) s' m' fc'))->Q (X (n+1) k s m fc))(hend:∀n s m fc,Inv N s m->Q (X (n+1) N s m fc)):∀n k s m fc,k<=N->N<n+k->Inv k s m->Q (X n k s m fc):=by
 intro n
 induction n with
 |zero=>intro k s m fc h1 h2;omega
 |succ n ih=>
  intro k s m fc h1 h2 hI
  rcases x1g9 k N with h|h
  .exact hstep n k s m fc h hI λs' m' fc' hI'=>ih (k+1) s' m' fc' h (by omega) hI'
  .have:k=N:=by omega
   subst this
   exact hend n s m fc hI
def RetF(T:AV->Prop)(r:O2):Prop:=∃a m' a',r=some (a,m')/\frz m'.get deep a=some a'/\T a'
theorem RetF.st{T:AV->Prop}{a:AV}{m:Mem}(h:still a=true)(ht:T a):RetF T (some (a,m)):=⟨a,m,a,rfl,xtu _ 4 h,ht⟩
theorem RetF.tup{T:AV->Prop}{l:List AV}{m:Mem}(h:l.all still=true)(ht:T (.tup l)):RetF T (some (.tup l,m)):=⟨_,m,_,rfl,frz_tup h,ht⟩
theorem RetF.mk{T:AV->Prop}{a a':AV}{m:Mem}(h:frz m.get deep a=some a')(ht:T a'):RetF T (some (a,m)):=⟨a,m,a',rfl,h,ht⟩
theorem xtg{T:AV->Prop}{call:xr5}{f:FuncId}{l:List AV}(hl:l.all still=true)(h:RetF T (call [] f l mem0))(m:Mem):∃a,T a/\xr8 call f l m=some (a,m):=by
 obtain⟨a,m',a',h1,h2,h3⟩:=h
 exact⟨a',h3,xw0 hl h1 h2⟩
theorem xth{v:AV}{call:xr5}{f:FuncId}{l:List AV}(hl:l.all still=true)(h:RetF (λa=>a=v) (call [] f l mem0))(m:Mem):xr8 call f l m=some (v,m):=by
 obtain⟨a,h1,h2⟩:=xtg hl h m
 rw[h2,h1]
theorem x10y{objs:Id->Option Ob}{a b a' b':AV}(ha:frz objs 5 a=some a')(hb:frz objs 5 b=some b'):frz objs deep (.tup [a,b])=some (.tup [a',b']):=by
 show([a,b].mapM (frz objs 5)).map AV.tup=_
 simp only[x1fq,x1g8,ha,hb]
 rfl
theorem frz_I{objs:Id->Option Ob}{k:Nat}{x:Int}:frz objs (k+1) (I x)=some (I x):=rfl
theorem Gr.frzk{α:Type}{z:Nat}{enc:α->List AV}{l:List α}{a:AV}(hz:∀x,(enc x).length=z)(hs:∀x,(enc x).all still1=true){u t k:Nat}{m:Mem}(h:Gr z enc u t m a l):∃a',Sl enc a' l/\Go.Ix.frz m.get (k+2) a=some a':=by
 rcases h with ⟨rfl,rfl⟩|⟨s,ver,rfl,hg⟩
 .exact⟨nilS,Or.inl ⟨rfl,rfl⟩,rfl⟩
 .have hl:=xu2 hz l
  refine⟨.slit (l.flatMap enc) l.length false,Sl.lit l false,?_⟩
  have:=xvp (objs:=m.get) (id:=(u,s,t)) (cs:=l.flatMap enc) (ver:=ver) (off:=0) (n:=l.length) (z:=z) (k:=k) (f:=false) (x:=true) hg (by omega) (by
   rw[x1f0,x1f8 (by omega)];exact xv6 hs l)
  rw[x1f0,x1f8 (by omega)]at this
  exact this
theorem Gr.len{α:Type}{z:Nat}{enc:α->List AV}{l:List α}{a:AV}{u t:Nat}{m:Mem}{y e:TypeId}(ht:Tryz.prog.underlying y=some (.slice e))(h:Gr z enc u t m a l):sLen Tryz.prog y a=some (I l.length):=by
 rcases h with ⟨rfl,rfl⟩|⟨s,ver,rfl,hg⟩
 .exact xxt ht
 .rfl
theorem xw1{α:Type}{enc:α->List AV}{m:Mem}{l:List α}{k:Nat}(hk:k<l.length)(j:Nat){v:AV}(hv:((enc l[k]).drop j).head?=some v):sLd false 1 (.plit (((l.drop k).flatMap enc).drop j)) m=some v:=by
 rw[xsj hk,x1fo]
 have hj:j<(enc l[k]).length:=by
  rcases x1g9 j (enc l[k]).length with h|h
  .exact h
  .rw[x1g4 h]at hv;cases hv
 rw[x1kk (by omega)]
 cases hd:(enc l[k]).drop j with
 |nil=>rw[hd]at hv;cases hv
 |cons x r=>
  rw[hd]at hv
  simp at hv
  subst hv
  rfl
theorem xzp(d:Nat)(a b c:Int)(m:Mem):xr8 (xr4 (d+1)) xr [I a,I b,I c] m=some (B (wi a b c),m):=by
 refine call0 rfl (m':=⟨[],1⟩) ?_ rfl
 rw[xlq]
 unfold xdw x95 wi
 by_cases h:b<=a<;>by_cases h2:a<=c<;>simp[h,h2,mem0]
theorem x10z(d:Nat)(a b:Int)(m:Mem)(h:-9223372036854775807<=b/\b<=9223372036854775807):xr8 (xr4 (d+2)) x16 [I a,I b] m=some (B (wi a (-b) b),m):=by
 refine call0 rfl (m':=⟨[],1⟩) ?_ rfl
 rw[xlw]
 unfold xe2 x9g
 simp(disch:=omega) [mem0,xzp,xrc]
theorem w_size7(d:Nat)(a:Int)(m:Mem)(h1:-9223372036854775808<a)(h2:a<=9223372036854775807):xr8 (xr4 (d+1)) x1i [I a] m=some (I (a.natAbs:Int),m):=by
 refine call0 rfl (m':=⟨[],1⟩) ?_ rfl
 rw[xmb]
 unfold xeg xa4
 simp(disch:=omega) [mem0,xrc]
 split<;>omega
abbrev T(s:ByteArray):AV:=.sc (.string s)
abbrev U8(c:Int):AV:=.sc (.int .u8 c)
def u8E(b:UInt8):List AV:=[U8 b.toNat]
theorem u8E_len(b:UInt8):(u8E b).length=1:=rfl
theorem u8_ge(x y:Operand)(a b:Int):sBin Tryz.prog .geq x7 x y (U8 a) (U8 b)=some (B (decide (b<=a))):=by kernel_rfl
theorem u8_le(x y:Operand)(a b:Int):sBin Tryz.prog .leq x7 x y (U8 a) (U8 b)=some (B (decide (a<=b))):=by kernel_rfl
theorem u8_gt(x y:Operand)(a b:Int):sBin Tryz.prog .gtr x7 x y (U8 a) (U8 b)=some (B (decide (b<a))):=by kernel_rfl
theorem u8_lt(x y:Operand)(a b:Int):sBin Tryz.prog .lss x7 x y (U8 a) (U8 b)=some (B (decide (a<b))):=by kernel_rfl
theorem u8_eq(x y:Operand)(a b:Int):sBin Tryz.prog .eql x7 x y (U8 a) (U8 b)=some (B (decide (a=b))):=by kernel_rfl
theorem u8_ne(x y:Operand)(a b:Int):sBin Tryz.prog .neq x7 x y (U8 a) (U8 b)=some (B (!decide (a=b))):=by kernel_rfl
def teq(a b:ByteArray):Bool:=a.toList == b.toList
theorem t_eq(x y:Operand)(a b:ByteArray):sBin Tryz.prog .eql xb x y (T a) (T b)=some (B (teq a b)):=by kernel_rfl
@[simp] theorem sLenS_T(s:ByteArray):xwy (T s)=some (I s.size):=rfl
theorem u_bytes:Tryz.prog.underlying x6v=some (.slice x7):=by kernel_rfl
theorem u_u8:Tryz.prog.underlying x7=some (.int .u8):=by kernel_rfl
theorem u_str:Tryz.prog.underlying xb=some .string:=by kernel_rfl
theorem cvt_bytes(s:ByteArray):sCvt Tryz.prog xb x6v (T s)=some (.slit (s.data.toList.flatMap u8E) s.data.toList.length false):=by
 have e:(s.data.toList.map λb=>U8 b.toNat)=s.data.toList.flatMap u8E:=by
  induction s.data.toList with
  |nil=>rfl
  |cons b l ih=>rw[x1fl,x1fo,ih];rfl
 simp only[sCvt,xs8,xz1,u_bytes,u_u8,u_str]
 rw[e,xu2 (z:=1) u8E_len s.data.toList,x1gz]
theorem idx_T{s:ByteArray}{k:Nat}(h:k<s.data.toList.length):sIdx Tryz.prog xb (T s) (I k)=some (U8 (s.data.toList[k]).toNat):=by
 have:xrl Tryz.prog (Instr.index xb (.string s) (.int .i64 k))=some (.int .u8 (s.data.toList[k]).toNat):=by
  have h2:s[k]?=some s.data.toList[k]:=by
   have h3:k<s.size:=by simpa using h
   rw[getElem?_pos s k h3]
   rfl
  simp only[Instr.index,asIntOf,asInt,underlying,program,Bind.bind,Sem.bind,xrl,Pure.pure,u_str]
  rw[x1ez (by omega),x1f1,h2]
  rfl
 have e:sIdx Tryz.prog xb (T s) (I k)=(xrl Tryz.prog (Instr.index xb (.string s) (.int .i64 k))).map xsq:=by
  simp only[sIdx,I,xs8]
 rw[e,this]
 rfl
def chOK(p:Bool)(c:Int):Bool:=(decide (97<=c)&&decide (c<=122))||(decide (65<=c)&&decide (c<=90))||(p&&(decide (c=45)||(decide (48<=c)&&decide (c<=57))))
def xw2:Nat->List UInt8->Bool
 |_,[]=>true
 |k,c::r=>chOK (decide (0<k)) c.toNat&&xw2 (k+1) r
def nmOK(s:ByteArray):Bool:=decide (0<s.size)&&decide (s.size<=12)&&xw2 0 s.data.toList
theorem ld_u8{m:Mem}{l:List UInt8}{k:Nat}(hk:k<l.length):sLd false 1 (.plit ((l.drop k).flatMap u8E)) m=some (U8 l[k].toNat):=by
 rw[xsj hk,x1fo]
 rfl
theorem l_isName(call:xr5)(hs:FHs)(u:Nat){a:AV}{l:List UInt8}(h:Sl u8E a l)(hl:l.length<=12):∀(suf:List UInt8) (k j:Nat) (m:Mem) (fc:Nat),l.drop k=suf->suf.length<j ->
 x3i call hs u j a (I l.length) (I k) m fc=some (B (xw2 k suf),m):=by
 intro suf
 induction suf with
 |nil=>
  intro k j m fc hd hj
  obtain⟨j,rfl⟩:∃i,j=i+1:=⟨j-1,by simp at hj;omega⟩
  have hk:¬((k:Int)<(l.length:Int)):=by have:=x1g2.mp hd;omega
  simp only[x3i]
  unfold xap xi8
  simp[hk,xw2]
 |cons e r ih=>
  intro k j m fc hd hj
  obtain⟨j,rfl⟩:∃i,j=i+1:=⟨j-1,by simp at hj;omega⟩
  obtain⟨hk,he,hd⟩:=xtf hd
  have hk':(k:Int)<(l.length:Int):=by omega
  have ix:=h.ix u8E_len hk
  have ld:=ld_u8 (m:=m) hk
  have next:∀fc,x3i call hs u j a (I l.length) (I (w64 ((k:Int)+1))) m fc=some (B (xw2 (k+1) r),m):=λfc=>by
   rw[xrc (by omega) (by omega)]
   exact ih (k+1) j m fc hd (by simp at hj;omega)
  rw[he]at ld
  have hk0:decide ((0:Int)<(k:Int))=decide (0<k):=by simp
  simp only[x3i]
  unfold xap xia xi9 xao xan
  simp only[xry,hk',x1ff,xrw,xr9,ix,ld,u8_ge,u8_le,u8_eq,sW_t,sW_f]
  simp only[xw2,chOK]
  generalize (e.toNat:Int)=c
  by_cases a1:97<=c<;>by_cases a2:c<=122<;>by_cases b1:65<=c<;>by_cases b2:c<=90<;>by_cases d1:48<=c<;>by_cases d2:c<=57<;>by_cases d0:c=45 <;>
   first
   |(exfalso;omega)
   |(by_cases hp:0<k<;>simp[a1,a2,b1,b2,d1,d2,d0,hp,u8_ge,u8_le,u8_eq,next])
theorem w_isName(d:Nat)(s:ByteArray)(m:Mem):xr8 (xr4 (d+1)) x4n [T s] m=some (B (nmOK s),m):=by
 refine call0 rfl (m':=⟨[],1⟩) ?_ rfl
 rw[xmm]
 have e0:teq s ⟨#[]⟩=decide (s.size=0):=by
  unfold teq
  rw[ByteArray.toList_eq,ByteArray.toList_eq]
  cases hs:s.data.toList with
  |nil=>
   have:s.size=0:=by show s.data.size=0;rw[<-x1h6,hs];rfl
   simp[this]
  |cons x r=>
   have:s.size=r.length+1:=by show s.data.size=_;rw[<-x1h6,hs];rfl
   simp[this]
 have hsz:s.data.toList.length=s.size:=rfl
 unfold xer xaq nmOK
 simp only[t_eq,e0,xr9]
 by_cases h0:s.size=0
 .simp[h0,mem0]
 .by_cases h12:s.size<=12
  .have hL:=l_isName (xr4 d) [] 0 (Sl.lit (enc:=u8E) s.data.toList false) (by omega) s.data.toList 0 NN ⟨[],1⟩ (fc:=12) rfl (by rw[xrg];omega)
   have hlen:sLen Tryz.prog x6v (.slit (s.data.toList.flatMap u8E) s.data.toList.length false)=some (I s.data.toList.length):=(Sl.lit (enc:=u8E) s.data.toList false).len u_bytes
   unfold xib
   simp only[cvt_bytes,hlen]
   simp[h0,h12,show ¬((12:Int)<s.size) by omega,show 0<s.size by omega,mem0]
   exact hL
  .simp[h0,h12,show(12:Int)<s.size by omega,mem0]
theorem l_IsName(call:xr5)(hs:FHs)(u:Nat){s:ByteArray}(hl:s.size<=12):∀(suf:List UInt8) (k j:Nat) (m:Mem) (fc:Nat),s.data.toList.drop k=suf->suf.length<j ->
 x3d call hs u j (T s) (I k) m fc=some (B (xw2 k suf),m):=by
 have hsz:s.data.toList.length=s.size:=rfl
 intro suf
 induction suf with
 |nil=>
  intro k j m fc hd hj
  obtain⟨j,rfl⟩:∃i,j=i+1:=⟨j-1,by simp at hj;omega⟩
  have hk:¬((k:Int)<(s.size:Int)):=by have:=x1g2.mp hd;omega
  simp only[x3d]
  unfold x9h xh7
  simp[hk,xw2]
 |cons e r ih=>
  intro k j m fc hd hj
  obtain⟨j,rfl⟩:∃i,j=i+1:=⟨j-1,by simp at hj;omega⟩
  obtain⟨hk,he,hd⟩:=xtf hd
  have hk':(k:Int)<(s.size:Int):=by omega
  have ix:=idx_T hk
  have next:∀fc,x3d call hs u j (T s) (I (w64 ((k:Int)+1))) m fc=some (B (xw2 (k+1) r),m):=λfc=>by
   rw[xrc (by omega) (by omega)]
   exact ih (k+1) j m fc hd (by simp at hj;omega)
  rw[he]at ix
  simp only[x3d]
  unfold x9h
  simp only[sLenS_T,xr9,xry,hk',x1ff,xrw,ix,u8_ge]
  simp only[xw2,chOK]
  generalize (e.toNat:Int)=c
  by_cases a1:97<=c<;>by_cases a2:c<=122<;>by_cases b1:65<=c<;>by_cases b2:c<=90<;>by_cases d1:c<48<;>by_cases d2:57<c<;>by_cases d0:c=45 <;>
   first
   |(exfalso;omega)
   |(have d1':(48<=c)=¬(c<48):=by rw[Int.not_lt]
     have d2':(c<=57)=¬(57<c):=by rw[Int.not_lt]
     by_cases hp:k=0<;>simp[a1,a2,b1,b2,d1,d2,d1',d2',d0,hp,Nat.pos_iff_ne_zero,u8_ge,u8_le,u8_eq,u8_ne,u8_lt,u8_gt,next]<;>(subst hp;have:=next (fc+44);simpa using this))
theorem w_IsName(d:Nat)(s:ByteArray)(m:Mem):xr8 (xr4 (d+1)) x4c [T s] m=some (B (nmOK s),m):=by
 refine call0 rfl (m':=⟨[],1⟩) ?_ rfl
 rw[xlx]
 have hsz:s.data.toList.length=s.size:=rfl
 unfold xe3 x9i nmOK
 by_cases h0:s.size=0
 .simp[h0,mem0]
 .by_cases h12:s.size<=12
  .have hL:=l_IsName (xr4 d) [] 0 (s:=s) h12 s.data.toList 0 NN ⟨[],1⟩ (fc:=10) rfl (by rw[xrg];omega)
   unfold xh8
   simp[h0,h12,show ¬((12:Int)<s.size) by omega,show ¬((s.size:Int)<1) by omega,show 0<s.size by omega,mem0]
   exact hL
  .simp[h0,h12,show(12:Int)<s.size by omega,show ¬((s.size:Int)<1) by omega,mem0]
end Go.Ix
