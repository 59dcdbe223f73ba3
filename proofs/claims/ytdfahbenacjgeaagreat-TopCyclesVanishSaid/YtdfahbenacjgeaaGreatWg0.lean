import Derived.Test.YtdfahbenacjgeaaGreatFxCall
import Derived.Test.YtdfahbenacjgeaaGreatFxOps
import Derived.Laws.Strings
set_option linter.unusedSimpArgs false
namespace Go.Ix
open Go.Proofs
variable{R:Type}{P:Program}{m:Mem}
@[simp] theorem xux(x y:Int):sAdd (I x) (I y)=some (I (w64 (x+y))):=_root_.id rfl
@[simp] theorem xvv(x y:Int):sSub (I x) (I y)=some (I (w64 (x-y))):=_root_.id rfl
@[simp] theorem sMul_I(x y:Int):sMul (I x) (I y)=some (I (w64 (x*y))):=_root_.id rfl
@[simp] theorem xta(x y:Int):sLt (I x) (I y)=some (B (decide (x<y))):=_root_.id rfl
@[simp] theorem sLe_I(x y:Int):sLe (I x) (I y)=some (B (decide (x<=y))):=_root_.id rfl
@[simp] theorem xxh(x y:Int):sGt (I x) (I y)=some (B (decide (y<x))):=_root_.id rfl
@[simp] theorem sGe_I(x y:Int):sGe (I x) (I y)=some (B (decide (y<=x))):=_root_.id rfl
@[simp] theorem sEq_I(x y:Int):sEq (I x) (I y)=some (B (decide (x=y))):=_root_.id rfl
@[simp] theorem xzr(x y:Int):sNe (I x) (I y)=some (B (!decide (x=y))):=_root_.id rfl
@[simp] theorem sNeg_I(x:Int):sNeg (I x)=some (I (w64 (0-x))):=_root_.id rfl
@[simp] theorem sNot_B(b:Bool):sNot (B b)=some (B (!b)):=_root_.id rfl
@[simp] theorem x11z(x y:Int):sMin (I x) (I y)=some (I (if y<x then y else x)):=_root_.id rfl
@[simp] theorem sMax_I(x y:Int):sMax (I x) (I y)=some (I (if y > x then y else x)):=_root_.id rfl
theorem sQuo_I{x y:Int}(h:y≠0):sQuo (I x) (I y)=some (I (w64 (x.tdiv y))):=by simp[sQuo,h]
theorem sRem_I{x y:Int}(h:y≠0):sRem (I x) (I y)=some (I (x.tmod y)):=by simp[sRem,h]
@[simp] theorem x120(c:Bool)(a b:AV):xt4 (B c) a b=some (bif c then a else b):=_root_.id rfl
@[simp] theorem xt9(a b:Option R):xsk (B true) a b=a:=_root_.id rfl
@[simp] theorem xup(a b:Option R):xsk (B false) a b=b:=_root_.id rfl
@[simp] theorem sW_t(b:Bool):sW (B b) true=b:=by cases b<;>rfl
@[simp] theorem sW_f(b:Bool):sW (B b) false=!b:=by cases b<;>rfl
@[simp] theorem sW_U(w:Bool):sW U w=false:=_root_.id rfl
@[simp] theorem xzs(l:List AV)(i:Nat):sExt (.tup l) i=l[i]?:=_root_.id rfl
@[simp] theorem x121(x:Int):(I x).cells=[I x]:=_root_.id rfl
@[simp] theorem cells_B(x:Bool):(B x).cells=[B x]:=_root_.id rfl
@[simp] theorem x142(l:List AV):(AV.agg l).cells=l:=_root_.id rfl
@[simp] theorem x1b9(l:List AV)(n:Nat)(x:Bool):(AV.slit l n x).cells=[.slit l n x]:=_root_.id rfl
@[simp] theorem cells_sref(id:Id)(ver off n z:Nat)(f:Bool):(AV.sref id ver off n z f).cells=[.sref id ver off n z f]:=_root_.id rfl
@[simp] theorem cells_nilS:(nilS).cells=[nilS]:=_root_.id rfl
@[simp] theorem one_I(x:Int):(I x).one=true:=_root_.id rfl
@[simp] theorem one_B(x:Bool):(B x).one=true:=_root_.id rfl
@[simp] theorem one_slit(l:List AV)(n:Nat)(x:Bool):(AV.slit l n x).one=true:=_root_.id rfl
@[simp] theorem one_sref(id:Id)(ver off n z:Nat)(f:Bool):(AV.sref id ver off n z f).one=true:=_root_.id rfl
@[simp] theorem one_nilS:(nilS).one=true:=_root_.id rfl
@[simp] theorem one_clo(f:FuncId)(l:List AV):(AV.clo f l).one=true:=_root_.id rfl
def still1:AV->Bool
 | .sc _ | .slit .. | .plit _=>true
 |_=>false
def still:AV->Bool
 | .sc _ | .slit .. | .plit _=>true
 | .agg l=>l.all still1
 | .clo _ l=>l.all still1
 |_=>false
@[simp] theorem still1_sc(v:Value):still1 (.sc v)=true:=_root_.id rfl
@[simp] theorem still1_slit(l:List AV)(n:Nat)(x:Bool):still1 (.slit l n x)=true:=_root_.id rfl
@[simp] theorem still_sc(v:Value):still (.sc v)=true:=_root_.id rfl
@[simp] theorem still_slit(l:List AV)(n:Nat)(x:Bool):still (.slit l n x)=true:=_root_.id rfl
@[simp] theorem still_agg(l:List AV):still (.agg l)=l.all still1:=_root_.id rfl
@[simp] theorem still_clo(f:FuncId)(l:List AV):still (.clo f l)=l.all still1:=_root_.id rfl
theorem xzt{a:AV}(objs:Id->Option Ob)(k:Nat)(h:still1 a=true):frz objs (k+1) a=some a:=by
 cases a<;>simp_all [frz,still1]
theorem xy4{f:AV->Option AV}:∀{l:List AV},(∀a∈l,f a=some a)->l.mapM f=some l
 |[],_=>rfl
 |a::l,h=>by
  rw[x1gw,h a (x1gf ..),xy4 λb hb=>h b (x1ge _ hb)]
  rfl
theorem xuh{a:AV}(objs:Id->Option Ob)(k:Nat)(h:still a=true):frz objs (k+2) a=some a:=by
 cases a with
 |agg l=>
  simp only[still,x1gj]at h
  have:l.mapM (frz objs (k+1))=some l:=xy4 λb hb=>xzt objs k (h b hb)
  show(l.mapM (frz objs (k+1))).map AV.agg=_
  rw[this];rfl
 |clo f l=>
  simp only[still,x1gj]at h
  have:l.mapM (frz objs (k+1))=some l:=xy4 λb hb=>xzt objs k (h b hb)
  show(l.mapM (frz objs (k+1))).map (AV.clo f)=_
  rw[this];rfl
 |_=>first|(exact xzt objs (k+1) rfl)|(simp[still]at h)
theorem x143{a:AV}(objs:Id->Option Ob)(k:Nat)(h:still1 a=true):xt3 objs (k+1) a=[]:=by
 cases a<;>simp_all [xt3,still1]
theorem x1ba{a:AV}(objs:Id->Option Ob)(k:Nat)(h:still a=true):xt3 objs (k+2) a=[]:=by
 cases a with
 |agg l=>
  simp only[still,x1gj]at h
  show l.flatMap (xt3 objs (k+1))=[]
  rw[x1jp]
  exact λb hb=>x143 objs k (h b hb)
 |clo f l=>
  simp only[still,x1gj]at h
  show l.flatMap (xt3 objs (k+1))=[]
  rw[x1jp]
  exact λb hb=>x143 objs k (h b hb)
 |_=>first|(exact x143 objs (k+1) rfl)|(simp[still]at h)
theorem x10w{l:List AV}(objs:Id->Option Ob)(h:l.all still=true):l.mapM (frz objs deep)=some l:=
 xy4 λa ha=>xuh objs 4 (x1gj.mp h a ha)
theorem x144{l:List AV}(objs:Id->Option Ob)(h:l.all still=true):l.flatMap (xt3 objs deep)=[]:=by
 rw[x1jp]
 exact λa ha=>x1ba objs 4 (x1gj.mp h a ha)
theorem call0{call:xsj}{f:FuncId}{l:List AV}{m m':Mem}{r:AV}(hl:l.all still=true)(h:call [] f l mem0=some (r,m'))(hr:still r=true):xsl call f l m=some (r,m):=by
 unfold xsl
 rw[x10w _ hl]
 simp only[h]
 rw[show frz m'.get deep r=some r from xuh _ 4 hr,x144 _ hl]
 rfl
theorem call0_tup{call:xsj}{f:FuncId}{l:List AV}{m m':Mem}{r:List AV}(hl:l.all still=true)(h:call [] f l mem0=some (.tup r,m'))(hr:r.all still=true):xsl call f l m=some (.tup r,m):=by
 unfold xsl
 rw[x10w _ hl]
 simp only[h]
 have:frz m'.get deep (.tup r)=some (.tup r):=by
  have h2:r.mapM (frz m'.get 5)=some r:=xy4 λa ha=>xuh _ 3 (x1gj.mp hr a ha)
  show(r.mapM (frz m'.get 5)).map AV.tup=_
  rw[h2];rfl
 rw[this,x144 _ hl]
 rfl
def Ans(call:xsj)(f:FuncId)(l:List AV)(r:AV):Prop:=∃m',call [] f l mem0=some (r,m')
theorem Ans.call0{call:xsj}{f:FuncId}{l:List AV}{m:Mem}{r:AV}(h:Ans call f l r)(hl:l.all still=true)(hr:still r=true):xsl call f l m=some (r,m):=
 let⟨_,h⟩:=h;Go.Ix.call0 hl h hr
theorem Ans.call0_tup{call:xsj}{f:FuncId}{l:List AV}{m:Mem}{r:List AV}(h:Ans call f l (.tup r))(hl:l.all still=true)(hr:r.all still=true):xsl call f l m=some (.tup r,m):=
 let⟨_,h⟩:=h;Go.Ix.call0_tup hl h hr
def Sl{α:Type}(enc:α->List AV)(a:AV)(l:List α):Prop:=(a=nilS/\l=[])\/∃x,a=.slit (l.flatMap enc) l.length x
variable{α:Type}{enc:α->List AV}{z:Nat}{a:AV}{l:List α}
theorem xut(hz:∀x,(enc x).length=z):∀l:List α,(l.flatMap enc).length=l.length*z
 |[]=>by simp
 |x::l=>by simp only[x1gy,x1hu,hz,xut hz l,x1gq,x1hb];omega
theorem x122(hz:∀x,(enc x).length=z):∀(l:List α) (k:Nat),(l.flatMap enc).drop (k*z)=(l.drop k).flatMap enc
 |l,0=>by simp
 |[],k+1=>by simp
 |x::l,k+1=>by
  rw[x1gy,x1hb,x1j9,x1h5 (by rw[hz];omega),x1hl,hz,Nat.add_sub_cancel,x122 hz l k,x1gr]
theorem xtm{l:List α}{k:Nat}(h:k<l.length):l.drop k=l[k]::l.drop (k+1):=x1lo h
theorem xul{l r:List α}{x:α}{k:Nat}(h:l.drop k=x::r):∃hk:k<l.length,l[k]=x/\l.drop (k+1)=r:=by
 have hk:k<l.length:=by
  rcases x1hf k l.length with h'|h'
  .exact h'
  .rw[x1h5 h']at h;cases h
 rw[xtm hk]at h
 injection h with he hd
 exact⟨hk,he,hd⟩
theorem Sl.still1(h:Sl enc a l):still1 a=true:=by
 rcases h with ⟨rfl,_⟩|⟨x,rfl⟩<;>rfl
theorem Sl.still(h:Sl enc a l):still a=true:=by
 rcases h with ⟨rfl,_⟩|⟨x,rfl⟩<;>rfl
theorem Sl.clean(h:Sl enc a l):clean a=true:=by
 rcases h with ⟨rfl,_⟩|⟨x,rfl⟩<;>rfl
theorem Sl.clean1(h:Sl enc a l):clean1 a=true:=by
 rcases h with ⟨rfl,_⟩|⟨x,rfl⟩<;>rfl
theorem Sl.cells(h:Sl enc a l):a.cells=[a]:=by
 rcases h with ⟨rfl,_⟩|⟨x,rfl⟩<;>rfl
theorem Sl.one(h:Sl enc a l):a.one=true:=by
 rcases h with ⟨rfl,_⟩|⟨x,rfl⟩<;>rfl
theorem Sl.tX(h:Sl enc a l):tX a=some []:=by
 rcases h with ⟨rfl,_⟩|⟨x,rfl⟩<;>rfl
theorem Sl.lit(l:List α)(x:Bool):Sl enc (.slit (l.flatMap enc) l.length x) l:=Or.inr ⟨x,rfl⟩
theorem Sl.elems(hz:∀x,(enc x).length=z)(h:Sl enc a l)(objs:Id->Option Ob):elems objs z a=some (l.flatMap enc,l.length):=by
 rcases h with ⟨rfl,rfl⟩|⟨x,rfl⟩
 .rfl
 .have h1:=xut hz l
  simp[Ix.elems,h1,x1gg]
theorem xzu{t e:TypeId}(ht:P.underlying t=some (.slice e)):sLen P t nilS=some (I 0):=by
 have:xsx P (Builtin.len_ #[t] 0 #[Value.slice none 0 0])=some (.int .i64 0):=by
  simp[Builtin.len_,underlying,program,Bind.bind,Sem.bind,xsx,Pure.pure,ht,goInt]
 show(xsx P (Builtin.len_ #[t] 0 #[Value.slice none 0 0])).map xu1=_
 rw[this];rfl
theorem Sl.len{t e:TypeId}(ht:P.underlying t=some (.slice e))(h:Sl enc a l):sLen P t a=some (I l.length):=by
 rcases h with ⟨rfl,rfl⟩|⟨x,rfl⟩
 .exact xzu ht
 .rfl
theorem Sl.ix(hz:∀x,(enc x).length=z)(h:Sl enc a l){k:Nat}(hk:k<l.length):sIx z a (I k)=some (.plit ((l.drop k).flatMap enc)):=by
 rcases h with ⟨rfl,rfl⟩|⟨x,rfl⟩
 .simp at hk
 .have:(0:Int)<=(k:Int)/\(k:Int)<(l.length:Int):=by omega
  simp[sIx,asI,x122 hz,hk]
theorem xtz{m:Mem}(hz:∀x,(enc x).length=z)(h0:0<z){k:Nat}(hk:k<l.length):sLd true z (.plit ((l.drop k).flatMap enc)) m=some (.agg (enc l[k])):=by
 have h1:=hz l[k]
 rw[xtm hk,x1gy]
 simp only[sLd]
 have hne:(enc l[k]++(l.drop (k+1)).flatMap enc).isEmpty=false:=by
  cases he:enc l[k]with
  |nil=>rw[he]at h1;simp at h1;omega
  |cons=>rfl
 rw[hne]
 simp only[x1h3,x1gu,rd]
 rw[x1g7 trivial,x1g7 (by rw[x1hu];omega),x1jr (by omega),x1gg (by omega)]
@[simp] theorem xtn(off:Nat)(id:Id)(ver o:Nat):sFA off (.ptr id ver o)=some (.ptr id ver (o+off)):=_root_.id rfl
@[simp] theorem xx1(off:Nat)(cs:List AV):sFA off (.plit cs)=some (.plit (cs.drop off)):=_root_.id rfl
@[simp] theorem ld_cons{m:Mem}(x:AV)(cs:List AV):sLd false 1 (.plit (x::cs)) m=some x:=_root_.id rfl
theorem ld_ptr{m:Mem}{id:Id}{g:Bool}{z off ver:Nat}{cs:List AV}{fz:Bool}(h:m.get id=some (.row cs ver fz)):sLd g z (.ptr id ver off) m=rd g z (cs.drop off):=by
 simp[sLd,h]
@[simp] theorem xx2(g:Bool)(z:Nat)(x:AV)(cs:List AV)(m:Mem):sLd g z (.plit (x::cs)) m=rd g z (x::cs):=_root_.id rfl
theorem st_ptr{m:Mem}{id:Id}{z off ver:Nat}{cs:List AV}{x:AV}{k:Mem->Option R}(h:m.get id=some (.row cs ver false))(h1:x.cells.length=z)(h2:off+z<=cs.length)(h3:x.cells.all AV.one=true) :
 sSt z (.ptr id ver off) x m k=k (m.set id (.row (xth cs off x.cells) ver false)):=by
 simp only[sSt,h]
 rw[x1g7 ⟨trivial,h1,h2,h3⟩]
@[simp] theorem Mem.next_set(m:Mem)(i:Id)(o:Ob):(m.set i o).next=m.next:=_root_.id rfl
@[simp] theorem Mem.next_new(m:Mem)(i:Id)(o:Ob):(m.new i o).next=m.next:=_root_.id rfl
theorem bind_cg{α β:Type}{x y:Option α}{f:α->Option β}(h:x=y):x.bind f=y.bind f:=by rw[h]
theorem cond_cg{α:Type}{x y:Bool}{a b:α}(h:x=y):cond x a b=cond y a b:=by rw[h]
theorem sCond_cg{x y:AV}{a b:Option R}(h:x=y):xsk x a b=xsk y a b:=by rw[h]
attribute [congr] bind_cg cond_cg sCond_cg
theorem xsn{α β:Type}(a:α)(f:α->Option β):(some a).bind f=f a:=_root_.id rfl
theorem xsr{α:Type}(a b:α):cond true a b=a:=_root_.id rfl
theorem xzv{α:Type}(a b:α):cond false a b=b:=_root_.id rfl
attribute [simp high] xsn xsr xzv
attribute [simp ↓ high] xt9 xup xsn xsr xzv
@[simp ↓] theorem xvs(cs:List AV)(id:Id)(m:Mem)(k:AV->Mem->Option R):xt7 cs id m k=k (.ptr id 0 0) (m.new id (.row cs 0 false)):=_root_.id rfl
def xui(z ver off:Nat)(x:AV):Option Ob->Option Ob
 |some (.row cs v false)=>bif decide (v=ver/\x.cells.length=z/\off+z<=cs.length/\(x.cells.all AV.one)=true)then some (.row (xth cs off x.cells) v false)else none
 |_=>none
theorem xtp(z:Nat)(id:Id)(ver off:Nat)(x:AV)(m:Mem)(k:Mem->Option R):sSt z (.ptr id ver off) x m k=(xui z ver off x (m.get id)).bind λo=>k (m.set id o):=by
 cases h:m.get id with
 |none=>simp only[sSt,h];rfl
 |some o=>
  cases o with
  |map es=>simp only[sSt,h];rfl
  |lp d=>simp only[sSt,h];rfl
  |row cs v f=>
   cases f with
   |true=>simp only[sSt,h];rfl
   |false=>
    simp only[sSt,h,xui]
    by_cases hc:v=ver/\x.cells.length=z/\off+z<=cs.length/\(x.cells.all AV.one)=true
    .rw[x1g7 hc,x1h6 hc];rfl
    .rw[x1g6 hc,x1ib hc];rfl
@[simp ↓] theorem x10x(c:AV)(w:Bool)(x:AV)(m:Mem)(k:AV×Mem->Option R):sGv c w x m k=(bif sW c w then some (x,m)else some (U,m)).bind k:=_root_.id rfl
@[simp ↓] theorem x10y(c:AV)(w:Bool)(x:Option AV)(m:Mem)(k:AV×Mem->Option R):sGo c w x m k=(bif sW c w then x.bind λv=>some (v,m)else some (U,m)).bind k:=_root_.id rfl
@[simp ↓] theorem x123(c:AV)(w:Bool)(x:Option (AV×Mem))(m:Mem)(k:AV×Mem->Option R):sGp c w x m k=(bif sW c w then x.bind λp=>some (p.1,p.2)else some (U,m)).bind k:=_root_.id rfl
theorem xvw(z ver off:Nat)(x:AV)(cs:List AV)(v:Nat):xui z ver off x (some (.row cs v false))=bif decide (v=ver/\x.cells.length=z/\off+z<=cs.length/\(x.cells.all AV.one)=true)then some (.row (xth cs off x.cells) v false)else none:=_root_.id rfl
theorem xxi(x:AV)(id:Id)(m:Mem)(k:AV->Mem->Option R):sBox x id m k=bif x.cells.all AV.one then k (.ptr id 0 0) (m.new id (.row x.cells 0 false))else none:=by
 unfold sBox
 split
 .rename_i e;rw[e];rfl
 .rename_i e;rw[x1lc]at e;rw[e];rfl
def xxj(g:Bool)(z ver off:Nat):Option Ob->Option AV
 |some (.row cs v _)=>bif Nat.beq v ver then rd g z (cs.drop off)else none
 |_=>none
theorem xsv(g:Bool)(z:Nat)(id:Id)(ver off:Nat)(m:Mem):sLd g z (.ptr id ver off) m=xxj g z ver off (m.get id):=by
 cases h:m.get id with
 |none=>simp only[sLd,h];rfl
 |some o=>
  cases o with
  |map es=>simp only[sLd,h];rfl
  |lp d=>simp only[sLd,h];rfl
  |row cs v f=>
   simp only[sLd,h,xxj]
   by_cases hc:v=ver
   .subst hc;simp
   .rw[x1g6 hc,show Nat.beq v ver=false from by rw[x1hm];intro x;exact hc (x1gx x)];rfl
theorem xt1(g:Bool)(z ver off:Nat)(cs:List AV)(v:Nat)(f:Bool):xxj g z ver off (some (.row cs v f))=bif Nat.beq v ver then rd g z (cs.drop off)else none:=_root_.id rfl
theorem rd_t(z:Nat)(cs:List AV):rd true z cs=bif decide (z<=cs.length)then some (.agg (cs.take z))else none:=by
 unfold rd
 by_cases h:z<=cs.length<;>simp[h]
theorem rd_f(z:Nat)(a:AV)(cs:List AV):rd false z (a::cs)=some a:=_root_.id rfl
theorem rd_1(a:AV)(cs:List AV):rd true 1 (a::cs)=some (.agg [a]):=by rw[rd_t,x1gq,x1h6 (by omega)];rfl
theorem rd_2(a b:AV)(cs:List AV):rd true 2 (a::b::cs)=some (.agg [a,b]):=by rw[rd_t];simp only[x1gq];rw[x1h6 (by omega)];rfl
theorem rd_3(a b c:AV)(cs:List AV):rd true 3 (a::b::c::cs)=some (.agg [a,b,c]):=by rw[rd_t];simp only[x1gq];rw[x1h6 (by omega)];rfl
theorem rd_4(a b c d:AV)(cs:List AV):rd true 4 (a::b::c::d::cs)=some (.agg [a,b,c,d]):=by rw[rd_t];simp only[x1gq];rw[x1h6 (by omega)];rfl
theorem xz1(ver:Nat)(a x:AV):xui 1 ver 0 x (some (.row [a] ver false))=bif decide (x.cells.length=1/\(x.cells.all AV.one)=true)then some (.row x.cells ver false)else none:=by
 rw[xvw]
 by_cases h:x.cells.length=1<;>simp[h,xth]
theorem x145(ver:Nat)(a b c d a' b' c' d':AV):xui 4 ver 0 (.agg [a',b',c',d']) (some (.row [a,b,c,d] ver false))=bif[a',b',c',d'].all AV.one then some (.row [a',b',c',d'] ver false)else none:=by
 rw[xvw]
 simp[xth]
theorem splice_eq(cs:List AV)(off:Nat)(vs:List AV):xth cs off vs=cs.take off++(vs++cs.drop (off+vs.length)):=_root_.id rfl
attribute [simp high] rd_1 rd_2 rd_3 rd_4 x145
attribute [simp] xsv xt1 xvw rd_t rd_f splice_eq Mem.get_set Mem.get_new xso
attribute [simp ↓] xtp xxi
def intE(x:Int):List AV:=[I x]
theorem xt2(x:Int):(intE x).length=1:=_root_.id rfl
theorem Sl.ixI(hz:∀x,(enc x).length=z)(h:Sl enc a l){k:Int}(h0:0<=k)(hk:k<l.length):sIx z a (I k)=some (.plit ((l.drop k.toNat).flatMap enc)):=by
 have:=h.ix hz (k:=k.toNat) (by omega)
 rwa[x1hg h0]at this
def at0(l:List Int)(k:Nat):Int:=l.getD k 0
theorem xt5{l:List Int}{k:Nat}(h:k<l.length):at0 l k=l[k]:=by
 unfold at0;rw[x1gk,x1gv h];rfl
theorem xte{m:Mem}{l:List Int}{k:Nat}(hk:k<l.length):sLd false 1 (.plit ((l.drop k).flatMap intE)) m=some (I (at0 l k)):=by
 rw[xtm hk,x1gy,xt5 hk]
 rfl
theorem mkM_0(l:List AV):mkM 0 l=bif l.all clean then 2 else 0:=by
 unfold mkM
 cases h:l.all clean<;>simp[h]
theorem mkM_1(l:List AV):mkM 1 l=bif l.all clean then 2 else 0:=by
 unfold mkM
 cases h:l.all clean<;>simp[h]
@[simp] theorem mkM_3(l:List AV):mkM 3 l=1:=_root_.id rfl
@[simp] theorem mkM_4(l:List AV):mkM 4 l=1:=_root_.id rfl
@[simp] theorem clean_sc(v:Value):clean (.sc v)=true:=_root_.id rfl
@[simp] theorem x17i(l:List AV):clean (.agg l)=l.all clean1:=_root_.id rfl
@[simp] theorem clean_slit(l:List AV)(n:Nat)(x:Bool):clean (.slit l n x)=true:=_root_.id rfl
@[simp] theorem clean1_sc(v:Value):clean1 (.sc v)=true:=_root_.id rfl
@[simp] theorem x1bb(l:List AV)(n:Nat)(x:Bool):clean1 (.slit l n x)=true:=_root_.id rfl
@[simp] theorem ble_2:Nat.ble 1 2=true:=_root_.id rfl
@[simp] theorem ble_1:Nat.ble 1 1=true:=_root_.id rfl
@[simp] theorem cAp_R2(a:AV):cAp none (tR a) 2=true:=by
  unfold tR;split<;>rfl
@[simp] theorem cAp_R1(a:AV):cAp none (tR a) 1=true:=by
  unfold tR;split<;>rfl
attribute [simp] mkM_0 mkM_1
theorem x124{call:xsj}{f:FuncId}{l:List AV}{m m':Mem}{r r':AV}(hl:l.all still=true)(h:call [] f l mem0=some (r,m'))(hr:frz m'.get deep r=some r'):xsl call f l m=some (r',m):=by
 unfold xsl
 rw[x10w _ hl]
 simp only[h,hr]
 rw[x144 _ hl]
 rfl
theorem xx3{objs:Id->Option Ob}{id:Id}{cs:List AV}{ver off n z k:Nat}{f x:Bool}(h:objs id=some (.row cs ver f))(hl:off+n*z<=cs.length)(hs:((cs.drop off).take (n*z)).all still1=true) :
 frz objs (k+2) (.sref id ver off n z x)=some (.slit ((cs.drop off).take (n*z)) n false):=by
 have h2:((cs.drop off).take (n*z)).mapM (frz objs (k+1))=some ((cs.drop off).take (n*z)):=xy4 λa ha=>xzt objs k (x1gj.mp hs a ha)
 simp only[frz,h]
 rw[x1g7 ⟨trivial,hl⟩]
 show((((cs.drop off).take (n*z)).mapM (frz objs (k+1))).map λl=>AV.slit l n false)=_
 rw[h2];rfl
theorem x10z{size bytes:Nat}{id:Id}{src:List AV}{q:Nat}{m:Mem}{k:AV->Mem->Option R}(h:xt6 q bytes) :
 sApp size bytes id (some (src,q)) (.slit [] 0 true) m k=bif decide (q=0)then k (.slit [] 0 true) m else k (.sref id 0 0 q size true) (m.new id (.row src 0 false)):=by
 simp only[sApp,x1in,x1gl,List.take_nil,x1hl]
 rw[x1g7 (x1jl _)]
 by_cases hq:q=0
 .rw[x1g7 hq,x1h6 hq];rfl
 .rw[x1g6 hq,x1g7 h,x1ib hq];rfl
theorem mkLit_nil{z:List AV}{size:Nat}{id:Id}{m:Mem}{k:AV->Mem->Option R}:xtc z [] 0 size id m k=k (.slit [] 0 true) m:=by
 simp[xtc,xtj,xtq]
theorem xwm(he:∀x,(enc x).all still1=true):∀l:List α,(l.flatMap enc).all still1=true
 |[]=>rfl
 |x::l=>by rw[x1gy,List.all_append,he,xwm he l];rfl
theorem xvc(x:Int):(intE x).all still1=true:=rfl
attribute [simp ↓] mkLit_nil
theorem x146{z:AV}{x:AV}{id:Id}{m:Mem}{k:AV->Mem->Option R}(h1:x.cells=[x])(h2:x.one=true)(h3:clean1 x=true):xtc [z] [(0,1,x)] 1 1 id m k=k (.slit [x] 1 true) m:=by
 simp[xtc,xtj,xtq,h1,h2,h3,x1jb]
@[simp ↓] theorem xwn{z:AV}{x:Int}{id:Id}{m:Mem}{k:AV->Mem->Option R}:xtc [z] [(0,1,I x)] 1 1 id m k=k (.slit [I x] 1 true) m:=x146 rfl rfl rfl
def Gr{α:Type}(z:Nat)(enc:α->List AV)(u t:Nat)(m:Mem)(a:AV)(l:List α):Prop:=
 (a=nilS/\l=[])\/∃s ver,a=.sref (u,s,t) ver 0 l.length z true/\m.get (u,s,t)=some (.row (l.flatMap enc) ver false)
theorem Gr.nil{u t:Nat}{m:Mem}:Gr z enc u t m nilS []:=Or.inl ⟨rfl,rfl⟩
theorem Gr.frame{u t:Nat}{m m':Mem}(h:Gr z enc u t m a l)(hm:∀s,m'.get (u,s,t)=m.get (u,s,t)):Gr z enc u t m' a l:=by
 rcases h with h|⟨s,ver,h1,h2⟩
 .exact Or.inl h
 .exact Or.inr ⟨s,ver,h1,by rw[hm];exact h2⟩
theorem Gr.app(hz:∀x,(enc x).length=z)(h0:0<z){u t s0 bytes:Nat}{m:Mem}(hr:xt6 (l.length+1) bytes)(h:Gr z enc u t m a l)(x:α) :
 ∃a' m',(∀{R:Type} (k:AV->Mem->Option R),sApp z bytes (u,s0,t) (some (enc x,1)) a m k=k a' m')/\Gr z enc u t m' a' (l++[x])/\m'.next=m.next/\∀j:Id,j.2.2≠t->m'.get j=m.get j:=by
 rcases h with ⟨rfl,rfl⟩|⟨s,ver,rfl,hg⟩
 .refine⟨.sref (u,s0,t) 0 0 1 z true,m.new (u,s0,t) (.row (enc x) 0 false),λk=>?_,Or.inr ⟨s0,0,rfl,by simp⟩,rfl,λj hj=>?_⟩
  .simp only[sApp]
   rw[x1g6 (by omega),x1g7 (by simpa using hr)]
  .rw[Mem.get_new,x1g6 (by rintro rfl;exact hj rfl)]
 .have hl:=xut hz l
  refine⟨.sref (u,s,t) (ver+1) 0 (l.length+1) z true,m.set (u,s,t) (.row (l.flatMap enc++enc x) (ver+1) false),λk=>?_,Or.inr ⟨s,ver+1,by simp,by simp⟩,rfl,λj hj=>?_⟩
  .simp only[sApp,hg]
   rw[x1g7 ⟨trivial,trivial,by omega,hr⟩,x1g6 (by omega),x1g6 (by rw[hl,x1hb];omega),x1g8,x1gg (by omega)]
  .rw[Mem.get_set,x1g6 (by rintro rfl;exact hj rfl)]
theorem Gr.frz(hz:∀x,(enc x).length=z)(hs:∀x,(enc x).all still1=true){u t:Nat}{m:Mem}(h:Gr z enc u t m a l):∃a',Sl enc a' l/\frz m.get deep a=some a':=by
 rcases h with ⟨rfl,rfl⟩|⟨s,ver,rfl,hg⟩
 .exact⟨nilS,Or.inl ⟨rfl,rfl⟩,rfl⟩
 .have hl:=xut hz l
  refine⟨.slit (l.flatMap enc) l.length false,Sl.lit l false,?_⟩
  have:=xx3 (objs:=m.get) (id:=(u,s,t)) (cs:=l.flatMap enc) (ver:=ver) (off:=0) (n:=l.length) (z:=z) (k:=4) (f:=false) (x:=true) hg (by omega) (by
   rw[x1g8,x1gg (by omega)];exact xwm hs l)
  rw[x1g8,x1gg (by omega)]at this
  exact this
theorem call0_any{call:xsj}{f:FuncId}{l l':List AV}{m m':Mem}{r r':AV}(hl:l.mapM (Go.Ix.frz m.get deep)=some l')(h:call [] f l' mem0=some (r,m'))(hr:Go.Ix.frz m'.get deep r=some r'):∃m2:Mem,m2.next=m.next/\xsl call f l m=some (r',m2):=by
 refine⟨⟨xw8 (l.flatMap (xt3 m.get deep)) m.hp,m.next⟩,rfl,?_⟩
 unfold xsl
 rw[hl]
 simp only[h,hr]
 rfl
theorem frz_tup{objs:Id->Option Ob}{l:List AV}(h:l.all still=true):Go.Ix.frz objs deep (.tup l)=some (.tup l):=by
 have h2:l.mapM (Go.Ix.frz objs 5)=some l:=xy4 λa ha=>xuh _ 3 (x1gj.mp h a ha)
 show(l.mapM (Go.Ix.frz objs 5)).map AV.tup=_
 rw[h2];rfl
theorem xsu:NN=1048576:=rfl
structure Edge where
 fr:Int
 to:Int
 jump:Int
 wt:Int
def Edge.c(e:Edge):List AV:=[I e.fr,I e.to,I e.jump,I e.wt]
theorem Edge.len(e:Edge):e.c.length=4:=rfl
def wi(a b c:Int):Bool:=decide (b<=a/\a<=c)
theorem wi_t{a b c:Int}(h:wi a b c=true):b<=a/\a<=c:=x1i2 h
theorem wi_iff{a b c:Int}:wi a b c=true↔b<=a/\a<=c:=x1il
theorem xy5(d:Nat)(a b c:Int)(m:Mem):xsl (xsi (d+1)) xh [I a,I b,I c] m=some (B (wi a b c),m):=by
 refine call0 rfl (m':=⟨[],1⟩) ?_ rfl
 rw[xma]
 unfold xdt x86 wi
 by_cases h:b<=a<;>by_cases h2:a<=c<;>simp[h,h2,mem0]
theorem xz2(d:Nat)(a b c:Int)(m:Mem):xsl (xsi (d+1)) xm [I a,I b,I c] m=some (B (wi a b c),m):=by
 refine call0 rfl (m':=⟨[],1⟩) ?_ rfl
 rw[xnn]
 unfold xdg xar wi
 by_cases h:b<=a<;>by_cases h2:a<=c<;>simp[h,h2,mem0]
theorem xwo:Tryz.prog.underlying xl=some (.slice xm0):=by kernel_rfl
theorem xt8:Tryz.prog.underlying x4=some (.slice xtg):=by kernel_rfl
theorem xy6:xj=[I 0,I 0,I 0,I 0]:=by kernel_rfl
theorem xu3:xtr=[I 0]:=by kernel_rfl
theorem w_Size(d:Nat)(a:Int)(m:Mem)(h1:-9223372036854775808<a)(h2:a<=9223372036854775807):xsl (xsi (d+1)) x16 [I a] m=some (I (a.natAbs:Int),m):=by
 refine call0 rfl (m':=⟨[],1⟩) ?_ rfl
 rw[xn9]
 unfold xer xa4
 simp(disch:=omega) [mem0,xso]
 split<;>omega
theorem w_size(d:Nat)(a:Int)(m:Mem)(h1:-9223372036854775808<a)(h2:a<=9223372036854775807):xsl (xsi (d+1)) x42 [I a] m=some (I (a.natAbs:Int),m):=by
 refine call0 rfl (m':=⟨[],1⟩) ?_ rfl
 rw[xo8]
 unfold xdk xbv
 simp(disch:=omega) [mem0,xso]
 split<;>omega
def xvm(n:Int):Int->List Edge->Int×Int
 |_,[]=>(0,0)
 |i,e::r=>
  bif !(wi e.fr 0 (n-1))||!(wi e.to 0 (n-1))then(i,6)
  else bif decide (e.fr=e.to)then(i,3)
  else bif !(wi e.jump (-1000) 1000)||!(wi e.wt 0 1000)then(i,2)
  else xvm n (i+1) r
def xv1(n:Int)(l:List Edge):Int×Int:=
 bif !(wi n 0 200)then(0,2)else bif decide (600<(l.length:Int))then(0,8)else xvm n 0 l
theorem x1bc(d:Nat)(a:Int)(m:Mem):xsl (xsi (d+2)) x4p [I a] m=some (B (wi a 0 1000),m):=by
 refine Ans.call0 ?_ rfl rfl
 unfold Ans
 rw[xoa]
 unfold xfm xbx
 simp[mem0,xz2]
theorem x1bd(d:Nat)(hs:FHs){n:Int}{ev:AV}{l:List Edge}(h:Sl Edge.c ev l)(hn:0<=n/\n<=200)(hl:l.length<=600):∀(suf:List Edge) (k j:Nat) (m:Mem) (fc:Nat),l.drop k=suf->suf.length<j ->
 m.get (0,0,1)=some (.row [I n,ev] 0 false)->∃m',x60 (xsi (d+2)) hs 0 j (.ptr (0,0,1) 0 0) ev (I l.length) (I k) m fc=some (.tup [I (xvm n k suf).1,I (xvm n k suf).2],m'):=by
 intro suf
 induction suf with
 |nil=>
  intro k j m fc hd hj hg
  obtain⟨j,rfl⟩:∃i,j=i+1:=⟨j-1,by simp at hj;omega⟩
  have hk:¬((k:Int)<(l.length:Int)):=by have:=x1ha.mp hd;omega
  simp only[x60]
  unfold xap
  simp[hk,xj2,xvm]
 |cons e r ih=>
  intro k j m fc hd hj hg
  obtain⟨j,rfl⟩:∃i,j=i+1:=⟨j-1,by simp at hj;omega⟩
  obtain⟨hk,he,hd⟩:=xul hd
  have hk':(k:Int)<(l.length:Int):=by omega
  have ix:=h.ix Edge.len hk
  have ld:=xtz (m:=m) Edge.len (by omega) hk
  rw[he]at ld
  simp only[x60]
  unfold xap
  simp(disch:=omega) [hg,hk',ix,ld,xy6,Edge.c,xz2]
  cases c1:wi e.fr 0 (n-1)
  .simp[xvm,c1]
  simp(disch:=omega) [hg,xz2]
  cases c2:wi e.to 0 (n-1)
  .simp[xvm,c1,c2]
  simp(disch:=omega)
  by_cases c3:e.fr=e.to
  .simp[xvm,c1,c2,c3]
  simp(disch:=omega) [c3,xz2]
  cases c4:wi e.jump (-1000) 1000
  .simp[xvm,c1,c2,c3,c4]
  simp(disch:=omega) [x1bc]
  cases c5:wi e.wt 0 1000
  .simp[xvm,c1,c2,c3,c4,c5]
  obtain⟨m',h'⟩:=ih (k+1) j ((m.new (0,fc+4,5) (.row [I 0,I 0,I 0,I 0] 0 false)).set (0,fc+4,5) (.row e.c 0 false)) (fc+43) hd (by simp at hj;omega) (by simp[hg])
  simp(disch:=omega) [xvm,c1,c2,c3,c4,c5]
  exact⟨m',h'⟩
theorem x1be(d:Nat){n:Int}{ev:AV}{l:List Edge}(h:Sl Edge.c ev l)(m:Mem):xsl (xsi (d+3)) x2t [.agg [I n,ev]] m=some (.tup [I (xv1 n l).1,I (xv1 n l).2],m):=by
 have key:Ans (xsi (d+3)) x2t [.agg [I n,ev]] (.tup [I (xv1 n l).1,I (xv1 n l).2]):=by
  unfold Ans
  rw[xnm]
  unfold xf3 xaq
  simp[mem0,h.one,xz2]
  cases c1:wi n 0 200
  .simp[xv1,c1]
  simp[h.len xwo]
  by_cases c2:(600:Int)<(l.length:Int)
  .simp[xv1,c1,c2]
  obtain⟨m',h'⟩:=x1bd d [] h (wi_t c1) (by omega) l 0 NN ((⟨[],1⟩:Mem).new (0,0,1) (.row [I n,ev] 0 false)) 17 rfl (by rw[xsu];omega) (by simp)
  simp[xv1,c1,c2,xj3,h.len xwo]
  exact⟨m',h'⟩
 exact key.call0_tup (by simp[h.still1]) rfl
theorem z_pnet:x6s=[I 0,nilS]:=by kernel_rfl
theorem w_open(d:Nat){n:Int}{ev:AV}{l:List Edge}(h:Sl Edge.c ev l)(m:Mem):xsl (xsi (d+4)) x2i [.agg [I n,ev]] m=some (.tup [.agg [I n,ev],I (xv1 n l).2],m):=by
 refine Ans.call0_tup ?_ (by simp[h.still1]) (by simp[h.still1])
 unfold Ans
 rw[xn0]
 unfold xei x9m
 simp[mem0,h.one,x1be _ h,z_pnet,xsw,xtj,sLdP]
structure Right (n:Int) (l:List Edge):Prop where
 lo:0<=n
 hi:n<=200
 len:l.length<=600
 ed:∀e∈l,(0<=e.fr/\e.fr<=n-1)/\(0<=e.to/\e.to<=n-1)/\e.fr≠e.to/\(-1000<=e.jump/\e.jump<=1000)/\(0<=e.wt/\e.wt<=1000)
theorem x17j{n:Int}:∀{l:List Edge} {i:Int},(xvm n i l).2=0->∀e∈l,(0<=e.fr/\e.fr<=n-1)/\(0<=e.to/\e.to<=n-1)/\e.fr≠e.to/\(-1000<=e.jump/\e.jump<=1000)/\(0<=e.wt/\e.wt<=1000)
 |[],_,_,e,he=>by cases he
 |x::r,i,h,e,he=>by
  unfold xvm at h
  cases c1:wi x.fr 0 (n-1)
  .simp[c1]at h
  cases c2:wi x.to 0 (n-1)
  .simp[c1,c2]at h
  by_cases c3:x.fr=x.to
  .simp[c1,c2,c3]at h
  cases c4:wi x.jump (-1000) 1000
  .simp[c1,c2,c3,c4]at h
  cases c5:wi x.wt 0 1000
  .simp[c1,c2,c3,c4,c5]at h
  simp[c1,c2,c3,c4,c5]at h
  rcases x1gn.mp he with rfl|he
  .exact⟨wi_t c1,wi_t c2,c3,wi_t c4,wi_t c5⟩
  .exact x17j h e he
theorem right_of{n:Int}{l:List Edge}(h:(xv1 n l).2=0):Right n l:=by
 unfold xv1 at h
 cases c1:wi n 0 200
 .simp[c1]at h
 by_cases c2:(600:Int)<(l.length:Int)
 .simp[c1,c2]at h
 simp[c1,c2]at h
 exact⟨(wi_t c1).1,(wi_t c1).2,by omega,x17j h⟩
abbrev Ints(a:AV)(l:List Int):Prop:=Sl intE a l
def exI(t:List Int)(e:Edge):Int:=at0 t e.to.toNat-at0 t e.fr.toNat+e.jump
def xvd(t:List Int):Int->List Edge->Int
 |s,[]=>s
 |s,e::r=>xvd t (s+e.wt*((exI t e).natAbs:Int)) r
def TurnsIn(t:List Int):Prop:=∀x∈t,-1000000<=x/\x<=1000000
theorem TurnsIn.get{t:List Int}(h:TurnsIn t)(k:Nat):-1000000<=at0 t k/\at0 t k<=1000000:=by
 unfold at0
 rw[x1gk]
 cases hk:t[k]? with
 |none=>simp
 |some x=>simpa using h x (x1hi hk)
structure EdgeIn (n:Nat) (e:Edge):Prop where
 f0:0<=e.fr
 f1:e.fr<n
 t0:0<=e.to
 t1:e.to<n
 j0:-1000<=e.jump
 j1:e.jump<=1000
 w0:0<=e.wt
 w1:e.wt<=1000
theorem w_excess(d:Nat){e:Edge}{a:AV}{t:List Int}(ha:Ints a t)(he:EdgeIn t.length e)(ht:TurnsIn t)(m:Mem):xsl (xsi (d+1)) x41 [.agg e.c,a] m=some (I (exI t e),m):=by
 have h1:=ht.get e.to.toNat
 have h2:=ht.get e.fr.toNat
 obtain⟨f0,f1,t0,t1,j0,j1,w0,w1⟩:=he
 refine Ans.call0 ?_ (by simp[ha.still,Edge.c]) rfl
 unfold Ans
 rw[xo9]
 unfold xdj xbw
 have i1:=ha.ixI xt2 t0 t1
 have i2:=ha.ixI xt2 f0 f1
 have l1:e.to.toNat<t.length:=by omega
 have l2:e.fr.toNat<t.length:=by omega
 simp(disch:=omega) [Edge.c,i1,i2,mem0,xte,exI]
theorem exI_in{t:List Int}{n:Nat}{e:Edge}(he:EdgeIn n e)(ht:TurnsIn t):-2001000<=exI t e/\exI t e<=2001000:=by
 have h1:=ht.get e.to.toNat
 have h2:=ht.get e.fr.toNat
 obtain⟨f0,f1,t0,t1,j0,j1,w0,w1⟩:=he
 unfold exI
 omega
theorem term_in{t:List Int}{n:Nat}{e:Edge}(he:EdgeIn n e)(ht:TurnsIn t):0<=e.wt*((exI t e).natAbs:Int)/\e.wt*((exI t e).natAbs:Int)<=2001000000:=by
 have h1:=exI_in he ht
 have h2:((exI t e).natAbs:Int)<=2001000:=by omega
 refine⟨x1le he.w0 (by omega),?_⟩
 have:=Int.mul_le_mul he.w1 h2 (by omega) (by omega)
 omega
theorem l_cost(d:Nat)(hs:FHs){ev a:AV}{l:List Edge}{t:List Int}(h:Sl Edge.c ev l)(hl:l.length<=600)(ha:Ints a t)(he:∀e∈l,EdgeIn t.length e)(ht:TurnsIn t):∀(suf:List Edge) (k j:Nat) (s:Int) (m:Mem) (fc:Nat),l.drop k=suf->suf.length<j ->
 0<=s->s<=k*2001000000->∃m',x5z (xsi (d+1)) hs 0 j a (I s) ev (I l.length) (I k) m fc=some (I (xvd t s suf),m'):=by
 intro suf
 induction suf with
 |nil=>
  intro k j s m fc hd hj s0 s1
  obtain⟨j,rfl⟩:∃i,j=i+1:=⟨j-1,by simp at hj;omega⟩
  have hk:¬((k:Int)<(l.length:Int)):=by have:=x1ha.mp hd;omega
  simp only[x5z]
  unfold xam
  simp[hk,xj0,xvd]
 |cons e r ih=>
  intro k j s m fc hd hj s0 s1
  obtain⟨j,rfl⟩:∃i,j=i+1:=⟨j-1,by simp at hj;omega⟩
  obtain⟨hk,hke,hd⟩:=xul hd
  have hk':(k:Int)<(l.length:Int):=by omega
  have ix:=h.ix Edge.len hk
  have ld:=xtz (m:=m) Edge.len (by omega) hk
  rw[hke]at ld
  have hee:=he e (hke▸x1go hk)
  have hx:=exI_in hee ht
  have htm:=term_in hee ht
  have we:=w_excess d ha hee ht
  simp only[Edge.c]at we
  obtain⟨m',h'⟩:=ih (k+1) j (s+e.wt*((exI t e).natAbs:Int)) ((m.new (0,fc+3,7) (.row [I 0,I 0,I 0,I 0] 0 false)).set (0,fc+3,7) (.row e.c 0 false)) (fc+17) hd (by simp at hj;omega) (by omega) (by omega)
  simp only[x5z]
  unfold xam
  simp(disch:=omega) [hk',ix,ld,xy6,Edge.c,we,w_size,ha.clean,xvd]
  exact⟨m',h'⟩
def xy7(call:xsj)(f:AV)(p:Int->Bool):Prop:=∀(hs:FHs) (x:Int) (m:Mem),∃n,xu2 call hs 2 f [I x] m=some (B (p x),⟨m.hp,n⟩)
def xuu(p:Int->Bool):Int->List Int->Int
 |_,[]=>-1
 |k,x::r=>bif p x then k else xuu p (k+1) r
theorem x17k{p:Int->Bool}:∀{l:List Int} {k:Int},0<=k->(decide (0<=xuu p k l))=l.any p
 |[],k,_=>rfl
 |x::r,k,h=>by
  unfold xuu
  cases c:p x
  .simp only[cond_false,x1im,c,x1jc];exact x17k (by omega)
  .simp[c,h]
theorem x1bf(d:Nat)(hs:FHs){a f:AV}{l:List Int}{p:Int->Bool}(h:Ints a l)(hl:l.length<1000000)(hf:xy7 (xsi d) f p)(u:Nat):∀(suf:List Int) (k j:Nat) (m:Mem) (fc:Nat),l.drop k=suf->suf.length<j ->
 ∃n,xx (xsi d) hs u j a f (I l.length) (I k) m fc=some (I (xuu p k suf),⟨m.hp,n⟩):=by
 intro suf
 induction suf with
 |nil=>
  intro k j m fc hd hj
  obtain⟨j,rfl⟩:∃i,j=i+1:=⟨j-1,by simp at hj;omega⟩
  have hk:¬((k:Int)<(l.length:Int)):=by have:=x1ha.mp hd;omega
  simp only[xx]
  unfold x3h
  simp[hk,xaj,xuu]
  exact⟨m.next,rfl⟩
 |cons x r ih=>
  intro k j m fc hd hj
  obtain⟨j,rfl⟩:∃i,j=i+1:=⟨j-1,by simp at hj;omega⟩
  obtain⟨hk,hke,hd⟩:=xul hd
  have hk':(k:Int)<(l.length:Int):=by omega
  have ix:=h.ix xt2 hk
  have e1:at0 l k=x:=by rw[xt5 hk,hke]
  obtain⟨n1,h1⟩:=hf hs x m
  obtain⟨n2,h2⟩:=ih (k+1) j ⟨m.hp,n1⟩ (fc+11) hd (by simp at hj;omega)
  simp only[xx]
  unfold x3h
  simp(disch:=omega) [hk',ix,xte,e1,h1,xuu]
  cases c:p x
  .simp(disch:=omega)
   exact⟨n2,h2⟩
  .simp
theorem x1bg(d:Nat)(hs:FHs){a f:AV}{l:List Int}{p:Int->Bool}(h:Ints a l)(hl:l.length<1000000)(hf:xy7 (xsi d) f p)(m:Mem):∃n,xsi (d+1) hs x1e [a,f] m=some (I (xuu p 0 l),⟨m.hp,n⟩):=by
 obtain⟨n,h'⟩:=x1bf d hs h hl hf m.next l 0 NN ⟨m.hp,m.next+1⟩ 4 rfl (by rw[xsu];omega)
 refine⟨n,?_⟩
 rw[xll]
 unfold x7m x6z xak
 simp[h.len xt8]
 exact h'
theorem x17l(d:Nat)(hs:FHs){a f:AV}{l:List Int}{p:Int->Bool}(h:Ints a l)(hl:l.length<1000000)(hf:xy7 (xsi d) f p)(m:Mem):∃n,xsi (d+2) hs xr [a,f] m=some (B (l.any p),⟨m.hp,n⟩):=by
 obtain⟨n,h'⟩:=x1bg d hs h hl hf ⟨m.hp,m.next+1⟩
 refine⟨n,?_⟩
 rw[xmw]
 unfold xef x9i
 simp only[h',x1k4,sGe_I,x17k (x1ho 0)]
theorem x147(d:Nat){a f:AV}{l:List Int}{p:Int->Bool}(h:Ints a l)(hl:l.length<1000000)(hf:xy7 (xsi d) f p)(hs:still f=true)(m:Mem):xsl (xsi (d+2)) xr [a,f] m=some (B (l.any p),m):=by
 obtain⟨n,h'⟩:=x17l d [] h hl hf mem0
 exact call0 (by simp[h.still,hs]) h' rfl
theorem xtd{σ R:Type}{N:Nat}(X:Nat->Nat->σ->Mem->Nat->R)(Inv:Nat->σ->Mem->Prop)(Q:R->Prop)(hstep:∀n k s m fc,k<N->Inv k s m->(∀s' m' fc',Inv (k+1) s' m'->Q (X n (k+1) s' m' fc'))->Q (X (n+1) k s m fc))(hend:∀n s m fc,Inv N s m->Q (X (n+1) N s m fc)):∀n k s m fc,k<=N->N<n+k->Inv k s m->Q (X n k s m fc):=by
 intro n
 induction n with
 |zero=>intro k s m fc h1 h2;omega
 |succ n ih=>
  intro k s m fc h1 h2 hI
  rcases x1hf k N with h|h
  .exact hstep n k s m fc h hI λs' m' fc' hI'=>ih (k+1) s' m' fc' h (by omega) hI'
  .have:k=N:=by omega
   subst this
   exact hend n s m fc hI
def RetF(T:AV->Prop)(r:O2):Prop:=∃a m' a',r=some (a,m')/\frz m'.get deep a=some a'/\T a'
theorem RetF.st{T:AV->Prop}{a:AV}{m:Mem}(h:still a=true)(ht:T a):RetF T (some (a,m)):=⟨a,m,a,rfl,xuh _ 4 h,ht⟩
theorem RetF.tup{T:AV->Prop}{l:List AV}{m:Mem}(h:l.all still=true)(ht:T (.tup l)):RetF T (some (.tup l,m)):=⟨_,m,_,rfl,frz_tup h,ht⟩
theorem RetF.mk{T:AV->Prop}{a a':AV}{m:Mem}(h:frz m.get deep a=some a')(ht:T a'):RetF T (some (a,m)):=⟨a,m,a',rfl,h,ht⟩
theorem xu6{T:AV->Prop}{call:xsj}{f:FuncId}{l:List AV}(hl:l.all still=true)(h:RetF T (call [] f l mem0))(m:Mem):∃a,T a/\xsl call f l m=some (a,m):=by
 obtain⟨a,m',a',h1,h2,h3⟩:=h
 exact⟨a',h3,x124 hl h1 h2⟩
theorem xua{v:AV}{call:xsj}{f:FuncId}{l:List AV}(hl:l.all still=true)(h:RetF (λa=>a=v) (call [] f l mem0))(m:Mem):xsl call f l m=some (v,m):=by
 obtain⟨a,h1,h2⟩:=xu6 hl h m
 rw[h2,h1]
theorem xxk{objs:Id->Option Ob}{a b a' b':AV}(ha:frz objs 5 a=some a')(hb:frz objs 5 b=some b'):frz objs deep (.tup [a,b])=some (.tup [a',b']):=by
 show([a,b].mapM (frz objs 5)).map AV.tup=_
 simp only[x1gw,x1hd,ha,hb]
 rfl
theorem x17m{objs:Id->Option Ob}{a b c a' b' c':AV}(ha:frz objs 5 a=some a')(hb:frz objs 5 b=some b')(hc:frz objs 5 c=some c'):frz objs deep (.tup [a,b,c])=some (.tup [a',b',c']):=by
 show([a,b,c].mapM (frz objs 5)).map AV.tup=_
 simp only[x1gw,x1hd,ha,hb,hc]
 rfl
theorem xzw{objs:Id->Option Ob}{k:Nat}{x:Int}:frz objs (k+1) (I x)=some (I x):=rfl
theorem Gr.frzk{α:Type}{z:Nat}{enc:α->List AV}{l:List α}{a:AV}(hz:∀x,(enc x).length=z)(hs:∀x,(enc x).all still1=true){u t k:Nat}{m:Mem}(h:Gr z enc u t m a l):∃a',Sl enc a' l/\Go.Ix.frz m.get (k+2) a=some a':=by
 rcases h with ⟨rfl,rfl⟩|⟨s,ver,rfl,hg⟩
 .exact⟨nilS,Or.inl ⟨rfl,rfl⟩,rfl⟩
 .have hl:=xut hz l
  refine⟨.slit (l.flatMap enc) l.length false,Sl.lit l false,?_⟩
  have:=xx3 (objs:=m.get) (id:=(u,s,t)) (cs:=l.flatMap enc) (ver:=ver) (off:=0) (n:=l.length) (z:=z) (k:=k) (f:=false) (x:=true) hg (by omega) (by
   rw[x1g8,x1gg (by omega)];exact xwm hs l)
  rw[x1g8,x1gg (by omega)]at this
  exact this
theorem Gr.len{α:Type}{z:Nat}{enc:α->List AV}{l:List α}{a:AV}{u t:Nat}{m:Mem}{y e:TypeId}(ht:Tryz.prog.underlying y=some (.slice e))(h:Gr z enc u t m a l):sLen Tryz.prog y a=some (I l.length):=by
 rcases h with ⟨rfl,rfl⟩|⟨s,ver,rfl,hg⟩
 .exact xzu ht
 .rfl
theorem xy8{α:Type}{enc:α->List AV}{m:Mem}{l:List α}{k:Nat}(hk:k<l.length)(j:Nat){v:AV}(hv:((enc l[k]).drop j).head?=some v):sLd false 1 (.plit (((l.drop k).flatMap enc).drop j)) m=some v:=by
 rw[xtm hk,x1gy]
 have hj:j<(enc l[k]).length:=by
  rcases x1hf j (enc l[k]).length with h|h
  .exact h
  .rw[x1h5 h]at hv;cases hv
 rw[x1lp (by omega)]
 cases hd:(enc l[k]).drop j with
 |nil=>rw[hd]at hv;cases hv
 |cons x r=>
  rw[hd]at hv
  simp at hv
  subst hv
  rfl
theorem xy9(d:Nat)(a b c:Int)(m:Mem):xsl (xsi (d+1)) xi [I a,I b,I c] m=some (B (wi a b c),m):=by
 refine call0 rfl (m':=⟨[],1⟩) ?_ rfl
 rw[xmh]
 unfold xe0 x8m wi
 by_cases h:b<=a<;>by_cases h2:a<=c<;>simp[h,h2,mem0]
theorem x148(d:Nat)(a b:Int)(m:Mem)(h:-9223372036854775807<=b/\b<=9223372036854775807):xsl (xsi (d+2)) x1k [I a,I b] m=some (B (wi a (-b) b),m):=by
 refine call0 rfl (m':=⟨[],1⟩) ?_ rfl
 rw[xmx]
 unfold xeg x9j
 simp(disch:=omega) [mem0,xy9,xso]
theorem w_size7(d:Nat)(a:Int)(m:Mem)(h1:-9223372036854775808<a)(h2:a<=9223372036854775807):xsl (xsi (d+1)) x2z [I a] m=some (I (a.natAbs:Int),m):=by
 refine call0 rfl (m':=⟨[],1⟩) ?_ rfl
 rw[xo3]
 unfold xfj xbh
 simp(disch:=omega) [mem0,xso]
 split<;>omega
abbrev T(s:ByteArray):AV:=.sc (.string s)
abbrev U8(c:Int):AV:=.sc (.int .u8 c)
def u8E(b:UInt8):List AV:=[U8 b.toNat]
theorem u8E_len(b:UInt8):(u8E b).length=1:=rfl
theorem u8_ge(x y:Operand)(a b:Int):sBin Tryz.prog .geq x8 x y (U8 a) (U8 b)=some (B (decide (b<=a))):=by kernel_rfl
theorem u8_le(x y:Operand)(a b:Int):sBin Tryz.prog .leq x8 x y (U8 a) (U8 b)=some (B (decide (a<=b))):=by kernel_rfl
theorem u8_gt(x y:Operand)(a b:Int):sBin Tryz.prog .gtr x8 x y (U8 a) (U8 b)=some (B (decide (b<a))):=by kernel_rfl
theorem u8_lt(x y:Operand)(a b:Int):sBin Tryz.prog .lss x8 x y (U8 a) (U8 b)=some (B (decide (a<b))):=by kernel_rfl
theorem u8_eq(x y:Operand)(a b:Int):sBin Tryz.prog .eql x8 x y (U8 a) (U8 b)=some (B (decide (a=b))):=by kernel_rfl
theorem u8_ne(x y:Operand)(a b:Int):sBin Tryz.prog .neq x8 x y (U8 a) (U8 b)=some (B (!decide (a=b))):=by kernel_rfl
def teq(a b:ByteArray):Bool:=a.toList == b.toList
theorem t_eq(x y:Operand)(a b:ByteArray):sBin Tryz.prog .eql xb x y (T a) (T b)=some (B (teq a b)):=by kernel_rfl
@[simp] theorem sLenS_T(s:ByteArray):xy2 (T s)=some (I s.size):=rfl
theorem u_bytes:Tryz.prog.underlying x7a=some (.slice x8):=by kernel_rfl
theorem u_u8:Tryz.prog.underlying x8=some (.int .u8):=by kernel_rfl
theorem u_str:Tryz.prog.underlying xb=some .string:=by kernel_rfl
theorem cvt_bytes(s:ByteArray):sCvt Tryz.prog xb x7a (T s)=some (.slit (s.data.toList.flatMap u8E) s.data.toList.length false):=by
 have e:(s.data.toList.map λb=>U8 b.toNat)=s.data.toList.flatMap u8E:=by
  induction s.data.toList with
  |nil=>rfl
  |cons b l ih=>rw[x1gt,x1gy,ih];rfl
 simp only[sCvt,xtk,x10e,u_bytes,u_u8,u_str]
 rw[e,xut (z:=1) u8E_len s.data.toList,x1i4]
theorem idx_T{s:ByteArray}{k:Nat}(h:k<s.data.toList.length):sIdx Tryz.prog xb (T s) (I k)=some (U8 (s.data.toList[k]).toNat):=by
 have:xsx Tryz.prog (Instr.index xb (.string s) (.int .i64 k))=some (.int .u8 (s.data.toList[k]).toNat):=by
  have h2:s[k]?=some s.data.toList[k]:=by
   have h3:k<s.size:=by simpa using h
   rw[getElem?_pos s k h3]
   rfl
  simp only[Instr.index,asIntOf,asInt,underlying,program,Bind.bind,Sem.bind,xsx,Pure.pure,u_str]
  rw[x1g7 (by omega),x1gb,h2]
  rfl
 have e:sIdx Tryz.prog xb (T s) (I k)=(xsx Tryz.prog (Instr.index xb (.string s) (.int .i64 k))).map xu1:=by
  simp only[sIdx,I,xtk]
 rw[e,this]
 rfl
def chOK(p:Bool)(c:Int):Bool:=(decide (97<=c)&&decide (c<=122))||(decide (65<=c)&&decide (c<=90))||(p&&(decide (c=45)||(decide (48<=c)&&decide (c<=57))))
def xx4:Nat->List UInt8->Bool
 |_,[]=>true
 |k,c::r=>chOK (decide (0<k)) c.toNat&&xx4 (k+1) r
def nmOK(s:ByteArray):Bool:=decide (0<s.size)&&decide (s.size<=12)&&xx4 0 s.data.toList
theorem ld_u8{m:Mem}{l:List UInt8}{k:Nat}(hk:k<l.length):sLd false 1 (.plit ((l.drop k).flatMap u8E)) m=some (U8 l[k].toNat):=by
 rw[xtm hk,x1gy]
 rfl
theorem l_isName(call:xsj)(hs:FHs)(u:Nat){a:AV}{l:List UInt8}(h:Sl u8E a l)(hl:l.length<=12):∀(suf:List UInt8) (k j:Nat) (m:Mem) (fc:Nat),l.drop k=suf->suf.length<j ->
 x3q call hs u j a (I l.length) (I k) m fc=some (B (xx4 k suf),m):=by
 intro suf
 induction suf with
 |nil=>
  intro k j m fc hd hj
  obtain⟨j,rfl⟩:∃i,j=i+1:=⟨j-1,by simp at hj;omega⟩
  have hk:¬((k:Int)<(l.length:Int)):=by have:=x1ha.mp hd;omega
  simp only[x3q]
  unfold xck xkj
  simp[hk,xx4]
 |cons e r ih=>
  intro k j m fc hd hj
  obtain⟨j,rfl⟩:∃i,j=i+1:=⟨j-1,by simp at hj;omega⟩
  obtain⟨hk,he,hd⟩:=xul hd
  have hk':(k:Int)<(l.length:Int):=by omega
  have ix:=h.ix u8E_len hk
  have ld:=ld_u8 (m:=m) hk
  have next:∀fc,x3q call hs u j a (I l.length) (I (w64 ((k:Int)+1))) m fc=some (B (xx4 (k+1) r),m):=λfc=>by
   rw[xso (by omega) (by omega)]
   exact ih (k+1) j m fc hd (by simp at hj;omega)
  rw[he]at ld
  have hk0:decide ((0:Int)<(k:Int))=decide (0<k):=by simp
  simp only[x3q]
  unfold xck xkl xkk xcj xci
  simp only[xta,hk',x1gm,xt9,xsn,ix,ld,u8_ge,u8_le,u8_eq,sW_t,sW_f]
  simp only[xx4,chOK]
  generalize (e.toNat:Int)=c
  by_cases a1:97<=c<;>by_cases a2:c<=122<;>by_cases b1:65<=c<;>by_cases b2:c<=90<;>by_cases d1:48<=c<;>by_cases d2:c<=57<;>by_cases d0:c=45 <;>
   first
   |(exfalso;omega)
   |(by_cases hp:0<k<;>simp[a1,a2,b1,b2,d1,d2,d0,hp,u8_ge,u8_le,u8_eq,next])
theorem w_isName(d:Nat)(s:ByteArray)(m:Mem):xsl (xsi (d+1)) x4s [T s] m=some (B (nmOK s),m):=by
 refine call0 rfl (m':=⟨[],1⟩) ?_ rfl
 rw[xoi]
 have e0:teq s ⟨#[]⟩=decide (s.size=0):=by
  unfold teq
  rw[ByteArray.toList_eq,ByteArray.toList_eq]
  cases hs:s.data.toList with
  |nil=>
   have:s.size=0:=by show s.data.size=0;rw[<-x1ih,hs];rfl
   simp[this]
  |cons x r=>
   have:s.size=r.length+1:=by show s.data.size=_;rw[<-x1ih,hs];rfl
   simp[this]
 have hsz:s.data.toList.length=s.size:=rfl
 unfold xfu xcl nmOK
 simp only[t_eq,e0,xsn]
 by_cases h0:s.size=0
 .simp[h0,mem0]
 .by_cases h12:s.size<=12
  .have hL:=l_isName (xsi d) [] 0 (Sl.lit (enc:=u8E) s.data.toList false) (by omega) s.data.toList 0 NN ⟨[],1⟩ (fc:=12) rfl (by rw[xsu];omega)
   have hlen:sLen Tryz.prog x7a (.slit (s.data.toList.flatMap u8E) s.data.toList.length false)=some (I s.data.toList.length):=(Sl.lit (enc:=u8E) s.data.toList false).len u_bytes
   unfold xkm
   simp only[cvt_bytes,hlen]
   simp[h0,h12,show ¬((12:Int)<s.size) by omega,show 0<s.size by omega,mem0]
   exact hL
  .simp[h0,h12,show(12:Int)<s.size by omega,mem0]
theorem l_IsName(call:xsj)(hs:FHs)(u:Nat){s:ByteArray}(hl:s.size<=12):∀(suf:List UInt8) (k j:Nat) (m:Mem) (fc:Nat),s.data.toList.drop k=suf->suf.length<j ->
 x3v call hs u j (T s) (I k) m fc=some (B (xx4 k suf),m):=by
 have hsz:s.data.toList.length=s.size:=rfl
 intro suf
 induction suf with
 |nil=>
  intro k j m fc hd hj
  obtain⟨j,rfl⟩:∃i,j=i+1:=⟨j-1,by simp at hj;omega⟩
  have hk:¬((k:Int)<(s.size:Int)):=by have:=x1ha.mp hd;omega
  simp only[x3v]
  unfold xcu xks
  simp[hk,xx4]
 |cons e r ih=>
  intro k j m fc hd hj
  obtain⟨j,rfl⟩:∃i,j=i+1:=⟨j-1,by simp at hj;omega⟩
  obtain⟨hk,he,hd⟩:=xul hd
  have hk':(k:Int)<(s.size:Int):=by omega
  have ix:=idx_T hk
  have next:∀fc,x3v call hs u j (T s) (I (w64 ((k:Int)+1))) m fc=some (B (xx4 (k+1) r),m):=λfc=>by
   rw[xso (by omega) (by omega)]
   exact ih (k+1) j m fc hd (by simp at hj;omega)
  rw[he]at ix
  simp only[x3v]
  unfold xcu
  simp only[sLenS_T,xsn,xta,hk',x1gm,xt9,ix,u8_ge]
  simp only[xx4,chOK]
  generalize (e.toNat:Int)=c
  by_cases a1:97<=c<;>by_cases a2:c<=122<;>by_cases b1:65<=c<;>by_cases b2:c<=90<;>by_cases d1:c<48<;>by_cases d2:57<c<;>by_cases d0:c=45 <;>
   first
   |(exfalso;omega)
   |(have d1':(48<=c)=¬(c<48):=by rw[Int.not_lt]
     have d2':(c<=57)=¬(57<c):=by rw[Int.not_lt]
     by_cases hp:k=0<;>simp[a1,a2,b1,b2,d1,d2,d1',d2',d0,hp,Nat.pos_iff_ne_zero,u8_ge,u8_le,u8_eq,u8_ne,u8_lt,u8_gt,next]<;>(subst hp;have:=next (fc+44);simpa using this))
theorem w_IsName(d:Nat)(s:ByteArray)(m:Mem):xsl (xsi (d+1)) x4v [T s] m=some (B (nmOK s),m):=by
 refine call0 rfl (m':=⟨[],1⟩) ?_ rfl
 rw[xoo]
 have hsz:s.data.toList.length=s.size:=rfl
 unfold xfy xcv nmOK
 by_cases h0:s.size=0
 .simp[h0,mem0]
 .by_cases h12:s.size<=12
  .have hL:=l_IsName (xsi d) [] 0 (s:=s) h12 s.data.toList 0 NN ⟨[],1⟩ (fc:=10) rfl (by rw[xsu];omega)
   unfold xkt
   simp[h0,h12,show ¬((12:Int)<s.size) by omega,show ¬((s.size:Int)<1) by omega,show 0<s.size by omega,mem0]
   exact hL
  .simp[h0,h12,show(12:Int)<s.size by omega,show ¬((s.size:Int)<1) by omega,mem0]
end Go.Ix
