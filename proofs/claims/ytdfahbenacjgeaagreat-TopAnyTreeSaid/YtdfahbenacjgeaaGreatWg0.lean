import Derived.Test.YtdfahbenacjgeaaGreatFxCall
import Derived.Test.YtdfahbenacjgeaaGreatFxOps
set_option linter.unusedSimpArgs false
namespace Go.Ix
open Go.Proofs
variable{R:Type}{P:Program}{m:Mem}
@[simp] theorem sAdd_I(x y:Int):sAdd (I x) (I y)=some (I (w64 (x+y))):=_root_.id rfl
@[simp] theorem xpd(x y:Int):sSub (I x) (I y)=some (I (w64 (x-y))):=_root_.id rfl
@[simp] theorem sMul_I(x y:Int):sMul (I x) (I y)=some (I (w64 (x*y))):=_root_.id rfl
@[simp] theorem xkx(x y:Int):sLt (I x) (I y)=some (B (decide (x<y))):=_root_.id rfl
@[simp] theorem sLe_I(x y:Int):sLe (I x) (I y)=some (B (decide (x<=y))):=_root_.id rfl
@[simp] theorem xpe(x y:Int):sGt (I x) (I y)=some (B (decide (y<x))):=_root_.id rfl
@[simp] theorem sGe_I(x y:Int):sGe (I x) (I y)=some (B (decide (y<=x))):=_root_.id rfl
@[simp] theorem sEq_I(x y:Int):sEq (I x) (I y)=some (B (decide (x=y))):=_root_.id rfl
@[simp] theorem sNe_I(x y:Int):sNe (I x) (I y)=some (B (!decide (x=y))):=_root_.id rfl
@[simp] theorem sNeg_I(x:Int):sNeg (I x)=some (I (w64 (0-x))):=_root_.id rfl
@[simp] theorem sNot_B(b:Bool):sNot (B b)=some (B (!b)):=_root_.id rfl
@[simp] theorem sMin_I(x y:Int):sMin (I x) (I y)=some (I (if y<x then y else x)):=_root_.id rfl
@[simp] theorem sMax_I(x y:Int):sMax (I x) (I y)=some (I (if y > x then y else x)):=_root_.id rfl
theorem sQuo_I{x y:Int}(h:y≠0):sQuo (I x) (I y)=some (I (w64 (x.tdiv y))):=by simp[sQuo,h]
theorem sRem_I{x y:Int}(h:y≠0):sRem (I x) (I y)=some (I (x.tmod y)):=by simp[sRem,h]
@[simp] theorem sPick_B(c:Bool)(a b:AV):xkk (B c) a b=some (bif c then a else b):=_root_.id rfl
@[simp] theorem xku(a b:Option R):xk5 (B true) a b=a:=_root_.id rfl
@[simp] theorem xmk(a b:Option R):xk5 (B false) a b=b:=_root_.id rfl
@[simp] theorem sW_t(b:Bool):sW (B b) true=b:=by cases b<;>rfl
@[simp] theorem sW_f(b:Bool):sW (B b) false=!b:=by cases b<;>rfl
@[simp] theorem sW_U(w:Bool):sW U w=false:=_root_.id rfl
@[simp] theorem xwb(l:List AV)(i:Nat):sExt (.tup l) i=l[i]?:=_root_.id rfl
@[simp] theorem xti(x:Int):(I x).cells=[I x]:=_root_.id rfl
@[simp] theorem cells_B(x:Bool):(B x).cells=[B x]:=_root_.id rfl
@[simp] theorem xtj(l:List AV):(AV.agg l).cells=l:=_root_.id rfl
@[simp] theorem cells_slit(l:List AV)(n:Nat)(x:Bool):(AV.slit l n x).cells=[.slit l n x]:=_root_.id rfl
@[simp] theorem cells_sref(id:Id)(ver off n z:Nat)(f:Bool):(AV.sref id ver off n z f).cells=[.sref id ver off n z f]:=_root_.id rfl
@[simp] theorem cells_nilS:(nilS).cells=[nilS]:=_root_.id rfl
@[simp] theorem one_I(x:Int):(I x).one=true:=_root_.id rfl
@[simp] theorem one_B(x:Bool):(B x).one=true:=_root_.id rfl
@[simp] theorem one_slit(l:List AV)(n:Nat)(x:Bool):(AV.slit l n x).one=true:=_root_.id rfl
@[simp] theorem one_sref(id:Id)(ver off n z:Nat)(f:Bool):(AV.sref id ver off n z f).one=true:=_root_.id rfl
@[simp] theorem one_nilS:(nilS).one=true:=_root_.id rfl
@[simp] theorem one_clo(f:FuncId)(l:List AV):(AV.clo f l).one=true:=_root_.id rfl
def still1:AV->Bool
 | .sc _ | .slit .. | .plit _=>true
 |_=>false
def still:AV->Bool
 | .sc _ | .slit .. | .plit _=>true
 | .agg l=>l.all still1
 | .clo _ l=>l.all still1
 |_=>false
@[simp] theorem still1_sc(v:Value):still1 (.sc v)=true:=_root_.id rfl
@[simp] theorem still1_slit(l:List AV)(n:Nat)(x:Bool):still1 (.slit l n x)=true:=_root_.id rfl
@[simp] theorem still_sc(v:Value):still (.sc v)=true:=_root_.id rfl
@[simp] theorem still_slit(l:List AV)(n:Nat)(x:Bool):still (.slit l n x)=true:=_root_.id rfl
@[simp] theorem still_agg(l:List AV):still (.agg l)=l.all still1:=_root_.id rfl
@[simp] theorem still_clo(f:FuncId)(l:List AV):still (.clo f l)=l.all still1:=_root_.id rfl
theorem xpv{a:AV}(objs:Id->Option Ob)(k:Nat)(h:still1 a=true):frz objs (k+1) a=some a:=by
 cases a<;>simp_all [frz,still1]
theorem xoi{f:AV->Option AV}:∀{l:List AV},(∀a∈l,f a=some a)->l.mapM f=some l
 |[],_=>rfl
 |a::l,h=>by
  rw[x135,h a (x12m ..),xoi λb hb=>h b (x12l _ hb)]
  rfl
theorem xmm{a:AV}(objs:Id->Option Ob)(k:Nat)(h:still a=true):frz objs (k+2) a=some a:=by
 cases a with
 |agg l=>
  simp only[still,x12k]at h
  have:l.mapM (frz objs (k+1))=some l:=xoi λb hb=>xpv objs k (h b hb)
  show(l.mapM (frz objs (k+1))).map AV.agg=_
  rw[this];rfl
 |clo f l=>
  simp only[still,x12k]at h
  have:l.mapM (frz objs (k+1))=some l:=xoi λb hb=>xpv objs k (h b hb)
  show(l.mapM (frz objs (k+1))).map (AV.clo f)=_
  rw[this];rfl
 |_=>first|(exact xpv objs (k+1) rfl)|(simp[still]at h)
theorem xtk{a:AV}(objs:Id->Option Ob)(k:Nat)(h:still1 a=true):xkh objs (k+1) a=[]:=by
 cases a<;>simp_all [xkh,still1]
theorem xyy{a:AV}(objs:Id->Option Ob)(k:Nat)(h:still a=true):xkh objs (k+2) a=[]:=by
 cases a with
 |agg l=>
  simp only[still,x12k]at h
  show l.flatMap (xkh objs (k+1))=[]
  rw[x158]
  exact λb hb=>xtk objs k (h b hb)
 |clo f l=>
  simp only[still,x12k]at h
  show l.flatMap (xkh objs (k+1))=[]
  rw[x158]
  exact λb hb=>xtk objs k (h b hb)
 |_=>first|(exact xtk objs (k+1) rfl)|(simp[still]at h)
theorem xrk{l:List AV}(objs:Id->Option Ob)(h:l.all still=true):l.mapM (frz objs deep)=some l:=
 xoi λa ha=>xmm objs 4 (x12k.mp h a ha)
theorem xtl{l:List AV}(objs:Id->Option Ob)(h:l.all still=true):l.flatMap (xkh objs deep)=[]:=by
 rw[x158]
 exact λa ha=>xyy objs 4 (x12k.mp h a ha)
theorem call0{call:xk3}{f:FuncId}{l:List AV}{m m':Mem}{r:AV}(hl:l.all still=true)(h:call [] f l mem0=some (r,m'))(hr:still r=true):xk4 call f l m=some (r,m):=by
 unfold xk4
 rw[xrk _ hl]
 simp only[h]
 rw[show frz m'.get deep r=some r from xmm _ 4 hr,xtl _ hl]
 rfl
theorem call0_tup{call:xk3}{f:FuncId}{l:List AV}{m m':Mem}{r:List AV}(hl:l.all still=true)(h:call [] f l mem0=some (.tup r,m'))(hr:r.all still=true):xk4 call f l m=some (.tup r,m):=by
 unfold xk4
 rw[xrk _ hl]
 simp only[h]
 have:frz m'.get deep (.tup r)=some (.tup r):=by
  have h2:r.mapM (frz m'.get 5)=some r:=xoi λa ha=>xmm _ 3 (x12k.mp hr a ha)
  show(r.mapM (frz m'.get 5)).map AV.tup=_
  rw[h2];rfl
 rw[this,xtl _ hl]
 rfl
def Ans(call:xk3)(f:FuncId)(l:List AV)(r:AV):Prop:=∃m',call [] f l mem0=some (r,m')
theorem Ans.call0{call:xk3}{f:FuncId}{l:List AV}{m:Mem}{r:AV}(h:Ans call f l r)(hl:l.all still=true)(hr:still r=true):xk4 call f l m=some (r,m):=
 let⟨_,h⟩:=h;Go.Ix.call0 hl h hr
theorem Ans.call0_tup{call:xk3}{f:FuncId}{l:List AV}{m:Mem}{r:List AV}(h:Ans call f l (.tup r))(hl:l.all still=true)(hr:r.all still=true):xk4 call f l m=some (.tup r,m):=
 let⟨_,h⟩:=h;Go.Ix.call0_tup hl h hr
def Sl{α:Type}(enc:α->List AV)(a:AV)(l:List α):Prop:=(a=nilS/\l=[])\/∃x,a=.slit (l.flatMap enc) l.length x
variable{α:Type}{enc:α->List AV}{z:Nat}{a:AV}{l:List α}
theorem xme(hz:∀x,(enc x).length=z):∀l:List α,(l.flatMap enc).length=l.length*z
 |[]=>by simp
 |x::l=>by simp only[x139,x149,hz,xme hz l,x12x,x13g];omega
theorem xtm(hz:∀x,(enc x).length=z):∀(l:List α) (k:Nat),(l.flatMap enc).drop (k*z)=(l.drop k).flatMap enc
 |l,0=>by simp
 |[],k+1=>by simp
 |x::l,k+1=>by
  rw[x139,x13g,x164,x134 (by rw[hz];omega),x14y,hz,Nat.add_sub_cancel,xtm hz l k,x146]
theorem xl7{l:List α}{k:Nat}(h:k<l.length):l.drop k=l[k]::l.drop (k+1):=List.drop_eq_getElem_cons h
theorem xmx{l r:List α}{x:α}{k:Nat}(h:l.drop k=x::r):∃hk:k<l.length,l[k]=x/\l.drop (k+1)=r:=by
 have hk:k<l.length:=by
  rcases x13a k l.length with h'|h'
  .exact h'
  .rw[x134 h']at h;cases h
 rw[xl7 hk]at h
 injection h with he hd
 exact⟨hk,he,hd⟩
theorem Sl.still1(h:Sl enc a l):still1 a=true:=by
 rcases h with ⟨rfl,_⟩|⟨x,rfl⟩<;>rfl
theorem Sl.still(h:Sl enc a l):still a=true:=by
 rcases h with ⟨rfl,_⟩|⟨x,rfl⟩<;>rfl
theorem Sl.clean(h:Sl enc a l):clean a=true:=by
 rcases h with ⟨rfl,_⟩|⟨x,rfl⟩<;>rfl
theorem Sl.clean1(h:Sl enc a l):clean1 a=true:=by
 rcases h with ⟨rfl,_⟩|⟨x,rfl⟩<;>rfl
theorem Sl.cells(h:Sl enc a l):a.cells=[a]:=by
 rcases h with ⟨rfl,_⟩|⟨x,rfl⟩<;>rfl
theorem Sl.one(h:Sl enc a l):a.one=true:=by
 rcases h with ⟨rfl,_⟩|⟨x,rfl⟩<;>rfl
theorem Sl.tX(h:Sl enc a l):tX a=some []:=by
 rcases h with ⟨rfl,_⟩|⟨x,rfl⟩<;>rfl
theorem Sl.lit(l:List α)(x:Bool):Sl enc (.slit (l.flatMap enc) l.length x) l:=Or.inr ⟨x,rfl⟩
theorem Sl.elems(hz:∀x,(enc x).length=z)(h:Sl enc a l)(objs:Id->Option Ob):elems objs z a=some (l.flatMap enc,l.length):=by
 rcases h with ⟨rfl,rfl⟩|⟨x,rfl⟩
 .rfl
 .have h1:=xme hz l
  simp[Ix.elems,h1,x12g]
theorem xqq{t e:TypeId}(ht:P.underlying t=some (.slice e)):sLen P t nilS=some (I 0):=by
 have:xk9 P (Builtin.len_ #[t] 0 #[Value.slice none 0 0])=some (.int .i64 0):=by
  simp[Builtin.len_,underlying,program,Bind.bind,Sem.bind,xk9,Pure.pure,ht,goInt]
 show(xk9 P (Builtin.len_ #[t] 0 #[Value.slice none 0 0])).map xl6=_
 rw[this];rfl
theorem Sl.len{t e:TypeId}(ht:P.underlying t=some (.slice e))(h:Sl enc a l):sLen P t a=some (I l.length):=by
 rcases h with ⟨rfl,rfl⟩|⟨x,rfl⟩
 .exact xqq ht
 .rfl
theorem Sl.ix(hz:∀x,(enc x).length=z)(h:Sl enc a l){k:Nat}(hk:k<l.length):sIx z a (I k)=some (.plit ((l.drop k).flatMap enc)):=by
 rcases h with ⟨rfl,rfl⟩|⟨x,rfl⟩
 .simp at hk
 .have:(0:Int)<=(k:Int)/\(k:Int)<(l.length:Int):=by omega
  simp[sIx,asI,xtm hz,hk]
theorem xlt{m:Mem}(hz:∀x,(enc x).length=z)(h0:0<z){k:Nat}(hk:k<l.length):sLd true z (.plit ((l.drop k).flatMap enc)) m=some (.agg (enc l[k])):=by
 have h1:=hz l[k]
 rw[xl7 hk,x139]
 simp only[sLd]
 have hne:(enc l[k]++(l.drop (k+1)).flatMap enc).isEmpty=false:=by
  cases he:enc l[k]with
  |nil=>rw[he]at h1;simp at h1;omega
  |cons=>rfl
 rw[hne]
 simp only[x138,x12w,rd]
 rw[x12c trivial,x12c (by rw[x149];omega),x163 (by omega),x12g (by omega)]
@[simp] theorem xoj(off:Nat)(id:Id)(ver o:Nat):sFA off (.ptr id ver o)=some (.ptr id ver (o+off)):=_root_.id rfl
@[simp] theorem sFA_plit(off:Nat)(cs:List AV):sFA off (.plit cs)=some (.plit (cs.drop off)):=_root_.id rfl
@[simp] theorem ld_cons{m:Mem}(x:AV)(cs:List AV):sLd false 1 (.plit (x::cs)) m=some x:=_root_.id rfl
theorem ld_ptr{m:Mem}{id:Id}{g:Bool}{z off ver:Nat}{cs:List AV}{fz:Bool}(h:m.get id=some (.row cs ver fz)):sLd g z (.ptr id ver off) m=rd g z (cs.drop off):=by
 simp[sLd,h]
@[simp] theorem sLd_cons(g:Bool)(z:Nat)(x:AV)(cs:List AV)(m:Mem):sLd g z (.plit (x::cs)) m=rd g z (x::cs):=_root_.id rfl
theorem st_ptr{m:Mem}{id:Id}{z off ver:Nat}{cs:List AV}{x:AV}{k:Mem->Option R}(h:m.get id=some (.row cs ver false))(h1:x.cells.length=z)(h2:off+z<=cs.length)(h3:x.cells.all AV.one=true) :
 sSt z (.ptr id ver off) x m k=k (m.set id (.row (xkz cs off x.cells) ver false)):=by
 simp only[sSt,h]
 rw[x12c ⟨trivial,h1,h2,h3⟩]
@[simp] theorem Mem.next_set(m:Mem)(i:Id)(o:Ob):(m.set i o).next=m.next:=_root_.id rfl
@[simp] theorem Mem.next_new(m:Mem)(i:Id)(o:Ob):(m.new i o).next=m.next:=_root_.id rfl
theorem bind_cg{α β:Type}{x y:Option α}{f:α->Option β}(h:x=y):x.bind f=y.bind f:=by rw[h]
theorem cond_cg{α:Type}{x y:Bool}{a b:α}(h:x=y):cond x a b=cond y a b:=by rw[h]
theorem sCond_cg{x y:AV}{a b:Option R}(h:x=y):xk5 x a b=xk5 y a b:=by rw[h]
attribute [congr] bind_cg cond_cg sCond_cg
theorem xka{α β:Type}(a:α)(f:α->Option β):(some a).bind f=f a:=_root_.id rfl
theorem xlf{α:Type}(a b:α):cond true a b=a:=_root_.id rfl
theorem cond_f{α:Type}(a b:α):cond false a b=b:=_root_.id rfl
attribute [simp high] xka xlf cond_f
attribute [simp ↓ high] xku xmk xka xlf cond_f
@[simp ↓] theorem xrl(cs:List AV)(id:Id)(m:Mem)(k:AV->Mem->Option R):xl2 cs id m k=k (.ptr id 0 0) (m.new id (.row cs 0 false)):=_root_.id rfl
def stRow(z ver off:Nat)(x:AV):Option Ob->Option Ob
 |some (.row cs v false)=>bif decide (v=ver/\x.cells.length=z/\off+z<=cs.length/\(x.cells.all AV.one)=true)then some (.row (xkz cs off x.cells) v false)else none
 |_=>none
theorem xok(z:Nat)(id:Id)(ver off:Nat)(x:AV)(m:Mem)(k:Mem->Option R):sSt z (.ptr id ver off) x m k=(stRow z ver off x (m.get id)).bind λo=>k (m.set id o):=by
 cases h:m.get id with
 |none=>simp only[sSt,h];rfl
 |some o=>
  cases o with
  |map es=>simp only[sSt,h];rfl
  |lp d=>simp only[sSt,h];rfl
  |row cs v f=>
   cases f with
   |true=>simp only[sSt,h];rfl
   |false=>
    simp only[sSt,h,stRow]
    by_cases hc:v=ver/\x.cells.length=z/\off+z<=cs.length/\(x.cells.all AV.one)=true
    .rw[x12c hc,x13e hc];rfl
    .rw[x12b hc,x14b hc];rfl
@[simp ↓] theorem xrm(c:AV)(w:Bool)(x:AV)(m:Mem)(k:AV×Mem->Option R):sGv c w x m k=(bif sW c w then some (x,m)else some (U,m)).bind k:=_root_.id rfl
@[simp ↓] theorem xrn(c:AV)(w:Bool)(x:Option AV)(m:Mem)(k:AV×Mem->Option R):sGo c w x m k=(bif sW c w then x.bind λv=>some (v,m)else some (U,m)).bind k:=_root_.id rfl
@[simp ↓] theorem xro(c:AV)(w:Bool)(x:Option (AV×Mem))(m:Mem)(k:AV×Mem->Option R):sGp c w x m k=(bif sW c w then x.bind λp=>some (p.1,p.2)else some (U,m)).bind k:=_root_.id rfl
theorem xqr(z ver off:Nat)(x:AV)(cs:List AV)(v:Nat):stRow z ver off x (some (.row cs v false))=bif decide (v=ver/\x.cells.length=z/\off+z<=cs.length/\(x.cells.all AV.one)=true)then some (.row (xkz cs off x.cells) v false)else none:=_root_.id rfl
theorem xrp(x:AV)(id:Id)(m:Mem)(k:AV->Mem->Option R):sBox x id m k=bif x.cells.all AV.one then k (.ptr id 0 0) (m.new id (.row x.cells 0 false))else none:=by
 unfold sBox
 split
 .rename_i e;rw[e];rfl
 .rename_i e;rw[x16w]at e;rw[e];rfl
def xpw(g:Bool)(z ver off:Nat):Option Ob->Option AV
 |some (.row cs v _)=>bif Nat.beq v ver then rd g z (cs.drop off)else none
 |_=>none
theorem xlb(g:Bool)(z:Nat)(id:Id)(ver off:Nat)(m:Mem):sLd g z (.ptr id ver off) m=xpw g z ver off (m.get id):=by
 cases h:m.get id with
 |none=>simp only[sLd,h];rfl
 |some o=>
  cases o with
  |map es=>simp only[sLd,h];rfl
  |lp d=>simp only[sLd,h];rfl
  |row cs v f=>
   simp only[sLd,h,xpw]
   by_cases hc:v=ver
   .subst hc;simp
   .rw[x12b hc,show Nat.beq v ver=false from by rw[x13d];intro x;exact hc (x12u x)];rfl
theorem xmf(g:Bool)(z ver off:Nat)(cs:List AV)(v:Nat)(f:Bool):xpw g z ver off (some (.row cs v f))=bif Nat.beq v ver then rd g z (cs.drop off)else none:=_root_.id rfl
theorem rd_t(z:Nat)(cs:List AV):rd true z cs=bif decide (z<=cs.length)then some (.agg (cs.take z))else none:=by
 unfold rd
 by_cases h:z<=cs.length<;>simp[h]
theorem rd_f(z:Nat)(a:AV)(cs:List AV):rd false z (a::cs)=some a:=_root_.id rfl
theorem rd_1(a:AV)(cs:List AV):rd true 1 (a::cs)=some (.agg [a]):=by rw[rd_t,x12x,x13e (by omega)];rfl
theorem rd_2(a b:AV)(cs:List AV):rd true 2 (a::b::cs)=some (.agg [a,b]):=by rw[rd_t];simp only[x12x];rw[x13e (by omega)];rfl
theorem rd_3(a b c:AV)(cs:List AV):rd true 3 (a::b::c::cs)=some (.agg [a,b,c]):=by rw[rd_t];simp only[x12x];rw[x13e (by omega)];rfl
theorem rd_4(a b c d:AV)(cs:List AV):rd true 4 (a::b::c::d::cs)=some (.agg [a,b,c,d]):=by rw[rd_t];simp only[x12x];rw[x13e (by omega)];rfl
theorem stRow_4(ver:Nat)(a b c d a' b' c' d':AV):stRow 4 ver 0 (.agg [a',b',c',d']) (some (.row [a,b,c,d] ver false))=bif[a',b',c',d'].all AV.one then some (.row [a',b',c',d'] ver false)else none:=by
 rw[xqr]
 simp[xkz]
theorem splice_eq(cs:List AV)(off:Nat)(vs:List AV):xkz cs off vs=cs.take off++(vs++cs.drop (off+vs.length)):=_root_.id rfl
attribute [simp high] rd_1 rd_2 rd_3 rd_4 stRow_4
attribute [simp] xlb xmf xqr rd_t rd_f splice_eq Mem.get_set Mem.get_new xk6
attribute [simp ↓] xok xrp
def intE(x:Int):List AV:=[I x]
theorem xk7(x:Int):(intE x).length=1:=_root_.id rfl
theorem Sl.ixI(hz:∀x,(enc x).length=z)(h:Sl enc a l){k:Int}(h0:0<=k)(hk:k<l.length):sIx z a (I k)=some (.plit ((l.drop k.toNat).flatMap enc)):=by
 have:=h.ix hz (k:=k.toNat) (by omega)
 rwa[x13i h0]at this
def at0(l:List Int)(k:Nat):Int:=l.getD k 0
theorem xkl{l:List Int}{k:Nat}(h:k<l.length):at0 l k=l[k]:=by
 unfold at0;rw[x12n,x12z h];rfl
theorem xkn{m:Mem}{l:List Int}{k:Nat}(hk:k<l.length):sLd false 1 (.plit ((l.drop k).flatMap intE)) m=some (I (at0 l k)):=by
 rw[xl7 hk,x139,xkl hk]
 rfl
theorem mkM_0(l:List AV):mkM 0 l=bif l.all clean then 2 else 0:=by
 unfold mkM
 cases h:l.all clean<;>simp[h]
theorem mkM_1(l:List AV):mkM 1 l=bif l.all clean then 2 else 0:=by
 unfold mkM
 cases h:l.all clean<;>simp[h]
@[simp] theorem mkM_3(l:List AV):mkM 3 l=1:=_root_.id rfl
@[simp] theorem mkM_4(l:List AV):mkM 4 l=1:=_root_.id rfl
@[simp] theorem clean_sc(v:Value):clean (.sc v)=true:=_root_.id rfl
@[simp] theorem clean_agg(l:List AV):clean (.agg l)=l.all clean1:=_root_.id rfl
@[simp] theorem clean_slit(l:List AV)(n:Nat)(x:Bool):clean (.slit l n x)=true:=_root_.id rfl
@[simp] theorem clean1_sc(v:Value):clean1 (.sc v)=true:=_root_.id rfl
@[simp] theorem clean1_slit(l:List AV)(n:Nat)(x:Bool):clean1 (.slit l n x)=true:=_root_.id rfl
@[simp] theorem ble_2:Nat.ble 1 2=true:=_root_.id rfl
@[simp] theorem ble_1:Nat.ble 1 1=true:=_root_.id rfl
@[simp] theorem cAp_R2(a:AV):cAp none (tR a) 2=true:=by
  unfold tR;split<;>rfl
@[simp] theorem cAp_R1(a:AV):cAp none (tR a) 1=true:=by
  unfold tR;split<;>rfl
attribute [simp] mkM_0 mkM_1
theorem xwc{call:xk3}{f:FuncId}{l:List AV}{m m':Mem}{r r':AV}(hl:l.all still=true)(h:call [] f l mem0=some (r,m'))(hr:frz m'.get deep r=some r'):xk4 call f l m=some (r',m):=by
 unfold xk4
 rw[xrk _ hl]
 simp only[h,hr]
 rw[xtl _ hl]
 rfl
theorem xol{objs:Id->Option Ob}{id:Id}{cs:List AV}{ver off n z k:Nat}{f x:Bool}(h:objs id=some (.row cs ver f))(hl:off+n*z<=cs.length)(hs:((cs.drop off).take (n*z)).all still1=true) :
 frz objs (k+2) (.sref id ver off n z x)=some (.slit ((cs.drop off).take (n*z)) n false):=by
 have h2:((cs.drop off).take (n*z)).mapM (frz objs (k+1))=some ((cs.drop off).take (n*z)):=xoi λa ha=>xpv objs k (x12k.mp hs a ha)
 simp only[frz,h]
 rw[x12c ⟨trivial,hl⟩]
 show((((cs.drop off).take (n*z)).mapM (frz objs (k+1))).map λl=>AV.slit l n false)=_
 rw[h2];rfl
theorem xrq{size bytes:Nat}{id:Id}{src:List AV}{q:Nat}{m:Mem}{k:AV->Mem->Option R}(h:xkg q bytes) :
 sApp size bytes id (some (src,q)) (.slit [] 0 true) m k=bif decide (q=0)then k (.slit [] 0 true) m else k (.sref id 0 0 q size true) (m.new id (.row src 0 false)):=by
 simp only[sApp,x14e,x13c,List.take_nil,x14y]
 rw[x12c (x15z _)]
 by_cases hq:q=0
 .rw[x12c hq,x13e hq];rfl
 .rw[x12b hq,x12c h,x14b hq];rfl
theorem mkLit_nil{z:List AV}{size:Nat}{id:Id}{m:Mem}{k:AV->Mem->Option R}:xl3 z [] 0 size id m k=k (.slit [] 0 true) m:=by
 simp[xl3,xle,xld]
theorem xny(he:∀x,(enc x).all still1=true):∀l:List α,(l.flatMap enc).all still1=true
 |[]=>rfl
 |x::l=>by rw[x139,List.all_append,he,xny he l];rfl
theorem xm5(x:Int):(intE x).all still1=true:=rfl
attribute [simp ↓] mkLit_nil
theorem mkLit_one{z:AV}{x:AV}{id:Id}{m:Mem}{k:AV->Mem->Option R}(h1:x.cells=[x])(h2:x.one=true)(h3:clean1 x=true):xl3 [z] [(0,1,x)] 1 1 id m k=k (.slit [x] 1 true) m:=by
 simp[xl3,xle,xld,h1,h2,h3,x15b]
@[simp ↓] theorem xtn{z:AV}{x:Int}{id:Id}{m:Mem}{k:AV->Mem->Option R}:xl3 [z] [(0,1,I x)] 1 1 id m k=k (.slit [I x] 1 true) m:=mkLit_one rfl rfl rfl
def Gr{α:Type}(z:Nat)(enc:α->List AV)(u t:Nat)(m:Mem)(a:AV)(l:List α):Prop:=
 (a=nilS/\l=[])\/∃s ver,a=.sref (u,s,t) ver 0 l.length z true/\m.get (u,s,t)=some (.row (l.flatMap enc) ver false)
theorem Gr.nil{u t:Nat}{m:Mem}:Gr z enc u t m nilS []:=Or.inl ⟨rfl,rfl⟩
theorem Gr.frame{u t:Nat}{m m':Mem}(h:Gr z enc u t m a l)(hm:∀s,m'.get (u,s,t)=m.get (u,s,t)):Gr z enc u t m' a l:=by
 rcases h with h|⟨s,ver,h1,h2⟩
 .exact Or.inl h
 .exact Or.inr ⟨s,ver,h1,by rw[hm];exact h2⟩
theorem Gr.app(hz:∀x,(enc x).length=z)(h0:0<z){u t s0 bytes:Nat}{m:Mem}(hr:xkg (l.length+1) bytes)(h:Gr z enc u t m a l)(x:α) :
 ∃a' m',(∀{R:Type} (k:AV->Mem->Option R),sApp z bytes (u,s0,t) (some (enc x,1)) a m k=k a' m')/\Gr z enc u t m' a' (l++[x])/\m'.next=m.next/\∀j:Id,j.2.2≠t->m'.get j=m.get j:=by
 rcases h with ⟨rfl,rfl⟩|⟨s,ver,rfl,hg⟩
 .refine⟨.sref (u,s0,t) 0 0 1 z true,m.new (u,s0,t) (.row (enc x) 0 false),λk=>?_,Or.inr ⟨s0,0,rfl,by simp⟩,rfl,λj hj=>?_⟩
  .simp only[sApp]
   rw[x12b (by omega),x12c (by simpa using hr)]
  .rw[Mem.get_new,x12b (by rintro rfl;exact hj rfl)]
 .have hl:=xme hz l
  refine⟨.sref (u,s,t) (ver+1) 0 (l.length+1) z true,m.set (u,s,t) (.row (l.flatMap enc++enc x) (ver+1) false),λk=>?_,Or.inr ⟨s,ver+1,by simp,by simp⟩,rfl,λj hj=>?_⟩
  .simp only[sApp,hg]
   rw[x12c ⟨trivial,trivial,by omega,hr⟩,x12b (by omega),x12b (by rw[hl,x13g];omega),x12j,x12g (by omega)]
  .rw[Mem.get_set,x12b (by rintro rfl;exact hj rfl)]
theorem Gr.frz(hz:∀x,(enc x).length=z)(hs:∀x,(enc x).all still1=true){u t:Nat}{m:Mem}(h:Gr z enc u t m a l):∃a',Sl enc a' l/\frz m.get deep a=some a':=by
 rcases h with ⟨rfl,rfl⟩|⟨s,ver,rfl,hg⟩
 .exact⟨nilS,Or.inl ⟨rfl,rfl⟩,rfl⟩
 .have hl:=xme hz l
  refine⟨.slit (l.flatMap enc) l.length false,Sl.lit l false,?_⟩
  have:=xol (objs:=m.get) (id:=(u,s,t)) (cs:=l.flatMap enc) (ver:=ver) (off:=0) (n:=l.length) (z:=z) (k:=4) (f:=false) (x:=true) hg (by omega) (by
   rw[x12j,x12g (by omega)];exact xny hs l)
  rw[x12j,x12g (by omega)]at this
  exact this
theorem frz_tup{objs:Id->Option Ob}{l:List AV}(h:l.all still=true):Go.Ix.frz objs deep (.tup l)=some (.tup l):=by
 have h2:l.mapM (Go.Ix.frz objs 5)=some l:=xoi λa ha=>xmm _ 3 (x12k.mp h a ha)
 show(l.mapM (Go.Ix.frz objs 5)).map AV.tup=_
 rw[h2];rfl
theorem xkj:NN=1048576:=rfl
structure Edge where
 fr:Int
 to:Int
 jump:Int
 wt:Int
def Edge.c(e:Edge):List AV:=[I e.fr,I e.to,I e.jump,I e.wt]
theorem Edge.len(e:Edge):e.c.length=4:=rfl
def wi(a b c:Int):Bool:=decide (b<=a/\a<=c)
theorem wi_t{a b c:Int}(h:wi a b c=true):b<=a/\a<=c:=x14a h
theorem wi_iff{a b c:Int}:wi a b c=true↔b<=a/\a<=c:=x15m
theorem xom(d:Nat)(a b c:Int)(m:Mem):xk4 (xk2 (d+1)) x9 [I a,I b,I c] m=some (B (wi a b c),m):=by
 refine call0 rfl (m':=⟨[],1⟩) ?_ rfl
 rw[xft]
 unfold x9e x5m wi
 by_cases h:b<=a<;>by_cases h2:a<=c<;>simp[h,h2,mem0]
theorem u_edges:Tryz.prog.underlying xf6=some (.slice xfi):=by kernel_rfl
theorem xke:Tryz.prog.underlying x2=some (.slice xkv):=by kernel_rfl
theorem xlo:xly=[I 0]:=by kernel_rfl
theorem w_Size(d:Nat)(a:Int)(m:Mem)(h1:-9223372036854775808<a)(h2:a<=9223372036854775807):xk4 (xk2 (d+1)) xp [I a] m=some (I (a.natAbs:Int),m):=by
 refine call0 rfl (m':=⟨[],1⟩) ?_ rfl
 rw[xgj]
 unfold xa4 x74
 simp(disch:=omega) [mem0,xk6]
 split<;>omega
def xwd(n:Int):Int->List Edge->Int×Int
 |_,[]=>(0,0)
 |i,e::r=>
  bif !(wi e.fr 0 (n-1))||!(wi e.to 0 (n-1))then(i,6)
  else bif decide (e.fr=e.to)then(i,3)
  else bif !(wi e.jump (-1000) 1000)||!(wi e.wt 0 1000)then(i,2)
  else xwd n (i+1) r
def checkNet(n:Int)(l:List Edge):Int×Int:=
 bif !(wi n 0 200)then(0,2)else bif decide (600<(l.length:Int))then(0,8)else xwd n 0 l
abbrev Ints(a:AV)(l:List Int):Prop:=Sl intE a l
def exI(t:List Int)(e:Edge):Int:=at0 t e.to.toNat-at0 t e.fr.toNat+e.jump
def TurnsIn(t:List Int):Prop:=∀x∈t,-1000000<=x/\x<=1000000
theorem TurnsIn.get{t:List Int}(h:TurnsIn t)(k:Nat):-1000000<=at0 t k/\at0 t k<=1000000:=by
 unfold at0
 rw[x12n]
 cases hk:t[k]? with
 |none=>simp
 |some x=>simpa using h x (x13b hk)
structure EdgeIn (n:Nat) (e:Edge):Prop where
 f0:0<=e.fr
 f1:e.fr<n
 t0:0<=e.to
 t1:e.to<n
 j0:-1000<=e.jump
 j1:e.jump<=1000
 w0:0<=e.wt
 w1:e.wt<=1000
def xpf(call:xk3)(f:AV)(p:Int->Bool):Prop:=∀(hs:FHs) (x:Int) (m:Mem),∃n,xlx call hs 2 f [I x] m=some (B (p x),⟨m.hp,n⟩)
def xpg(p:Int->Bool):Int->List Int->Int
 |_,[]=>-1
 |k,x::r=>bif p x then k else xpg p (k+1) r
theorem xwe{p:Int->Bool}:∀{l:List Int} {k:Int},0<=k->(decide (0<=xpg p k l))=l.any p
 |[],k,_=>rfl
 |x::r,k,h=>by
  unfold xpg
  cases c:p x
  .simp only[cond_false,x14c,c,x15c];exact xwe (by omega)
  .simp[c,h]
theorem xyz(d:Nat)(hs:FHs){a f:AV}{l:List Int}{p:Int->Bool}(h:Ints a l)(hl:l.length<1000000)(hf:xpf (xk2 d) f p)(u:Nat):∀(suf:List Int) (k j:Nat) (m:Mem) (fc:Nat),l.drop k=suf->suf.length<j ->
 ∃n,x42 (xk2 d) hs u j a f (I l.length) (I k) m fc=some (I (xpg p k suf),⟨m.hp,n⟩):=by
 intro suf
 induction suf with
 |nil=>
  intro k j m fc hd hj
  obtain⟨j,rfl⟩:∃i,j=i+1:=⟨j-1,by simp at hj;omega⟩
  have hk:¬((k:Int)<(l.length:Int)):=by have:=x13z.mp hd;omega
  simp only[x42]
  unfold x7j
  simp[hk,xdl,xpg]
  exact⟨m.next,rfl⟩
 |cons x r ih=>
  intro k j m fc hd hj
  obtain⟨j,rfl⟩:∃i,j=i+1:=⟨j-1,by simp at hj;omega⟩
  obtain⟨hk,hke,hd⟩:=xmx hd
  have hk':(k:Int)<(l.length:Int):=by omega
  have ix:=h.ix xk7 hk
  have e1:at0 l k=x:=by rw[xkl hk,hke]
  obtain⟨n1,h1⟩:=hf hs x m
  obtain⟨n2,h2⟩:=ih (k+1) j ⟨m.hp,n1⟩ (fc+11) hd (by simp at hj;omega)
  simp only[x42]
  unfold x7j
  simp(disch:=omega) [hk',ix,xkn,e1,h1,xpg]
  cases c:p x
  .simp(disch:=omega)
   exact⟨n2,h2⟩
  .simp
theorem xz0(d:Nat)(hs:FHs){a f:AV}{l:List Int}{p:Int->Bool}(h:Ints a l)(hl:l.length<1000000)(hf:xpf (xk2 d) f p)(m:Mem):∃n,xk2 (d+1) hs x2i [a,f] m=some (I (xpg p 0 l),⟨m.hp,n⟩):=by
 obtain⟨n,h'⟩:=xyz d hs h hl hf m.next l 0 NN ⟨m.hp,m.next+1⟩ 4 rfl (by rw[xkj];omega)
 refine⟨n,?_⟩
 rw[xgt]
 unfold x93 x7k xdm
 simp[h.len xke]
 exact h'
theorem xz1(d:Nat)(hs:FHs){a f:AV}{l:List Int}{p:Int->Bool}(h:Ints a l)(hl:l.length<1000000)(hf:xpf (xk2 d) f p)(m:Mem):∃n,xk2 (d+2) hs xo [a,f] m=some (B (l.any p),⟨m.hp,n⟩):=by
 obtain⟨n,h'⟩:=xz0 d hs h hl hf ⟨m.hp,m.next+1⟩
 refine⟨n,?_⟩
 rw[xgd]
 unfold x9y x6u
 simp only[h',x15i,sGe_I,xwe (x165 0)]
theorem xto(d:Nat){a f:AV}{l:List Int}{p:Int->Bool}(h:Ints a l)(hl:l.length<1000000)(hf:xpf (xk2 d) f p)(hs:still f=true)(m:Mem):xk4 (xk2 (d+2)) xo [a,f] m=some (B (l.any p),m):=by
 obtain⟨n,h'⟩:=xz1 d [] h hl hf mem0
 exact call0 (by simp[h.still,hs]) h' rfl
theorem xkq{σ R:Type}{N:Nat}(X:Nat->Nat->σ->Mem->Nat->R)(Inv:Nat->σ->Mem->Prop)(Q:R->Prop)(hstep:∀n k s m fc,k<N->Inv k s m->(∀s' m' fc',Inv (k+1) s' m'->Q (X n (k+1) s' m' fc'))->Q (X (n+1) k s m fc))(hend:∀n s m fc,Inv N s m->Q (X (n+1) N s m fc)):∀n k s m fc,k<=N->N<n+k->Inv k s m->Q (X n k s m fc):=by
 intro n
 induction n with
 |zero=>intro k s m fc h1 h2;omega
 |succ n ih=>
  intro k s m fc h1 h2 hI
  rcases x13a k N with h|h
  .exact hstep n k s m fc h hI λs' m' fc' hI'=>ih (k+1) s' m' fc' h (by omega) hI'
  .have:k=N:=by omega
   subst this
   exact hend n s m fc hI
def RetF(T:AV->Prop)(r:O2):Prop:=∃a m' a',r=some (a,m')/\frz m'.get deep a=some a'/\T a'
theorem RetF.st{T:AV->Prop}{a:AV}{m:Mem}(h:still a=true)(ht:T a):RetF T (some (a,m)):=⟨a,m,a,rfl,xmm _ 4 h,ht⟩
theorem RetF.tup{T:AV->Prop}{l:List AV}{m:Mem}(h:l.all still=true)(ht:T (.tup l)):RetF T (some (.tup l,m)):=⟨_,m,_,rfl,frz_tup h,ht⟩
theorem RetF.mk{T:AV->Prop}{a a':AV}{m:Mem}(h:frz m.get deep a=some a')(ht:T a'):RetF T (some (a,m)):=⟨a,m,a',rfl,h,ht⟩
theorem xlq{T:AV->Prop}{call:xk3}{f:FuncId}{l:List AV}(hl:l.all still=true)(h:RetF T (call [] f l mem0))(m:Mem):∃a,T a/\xk4 call f l m=some (a,m):=by
 obtain⟨a,m',a',h1,h2,h3⟩:=h
 exact⟨a',h3,xwc hl h1 h2⟩
theorem xlu{v:AV}{call:xk3}{f:FuncId}{l:List AV}(hl:l.all still=true)(h:RetF (λa=>a=v) (call [] f l mem0))(m:Mem):xk4 call f l m=some (v,m):=by
 obtain⟨a,h1,h2⟩:=xlq hl h m
 rw[h2,h1]
theorem xtp{objs:Id->Option Ob}{a b a' b':AV}(ha:frz objs 5 a=some a')(hb:frz objs 5 b=some b'):frz objs deep (.tup [a,b])=some (.tup [a',b']):=by
 show([a,b].mapM (frz objs 5)).map AV.tup=_
 simp only[x135,x13p,ha,hb]
 rfl
theorem xwf{objs:Id->Option Ob}{a b c a' b' c':AV}(ha:frz objs 5 a=some a')(hb:frz objs 5 b=some b')(hc:frz objs 5 c=some c'):frz objs deep (.tup [a,b,c])=some (.tup [a',b',c']):=by
 show([a,b,c].mapM (frz objs 5)).map AV.tup=_
 simp only[x135,x13p,ha,hb,hc]
 rfl
theorem frz_I{objs:Id->Option Ob}{k:Nat}{x:Int}:frz objs (k+1) (I x)=some (I x):=rfl
theorem Gr.frzk{α:Type}{z:Nat}{enc:α->List AV}{l:List α}{a:AV}(hz:∀x,(enc x).length=z)(hs:∀x,(enc x).all still1=true){u t k:Nat}{m:Mem}(h:Gr z enc u t m a l):∃a',Sl enc a' l/\Go.Ix.frz m.get (k+2) a=some a':=by
 rcases h with ⟨rfl,rfl⟩|⟨s,ver,rfl,hg⟩
 .exact⟨nilS,Or.inl ⟨rfl,rfl⟩,rfl⟩
 .have hl:=xme hz l
  refine⟨.slit (l.flatMap enc) l.length false,Sl.lit l false,?_⟩
  have:=xol (objs:=m.get) (id:=(u,s,t)) (cs:=l.flatMap enc) (ver:=ver) (off:=0) (n:=l.length) (z:=z) (k:=k) (f:=false) (x:=true) hg (by omega) (by
   rw[x12j,x12g (by omega)];exact xny hs l)
  rw[x12j,x12g (by omega)]at this
  exact this
theorem Gr.len{α:Type}{z:Nat}{enc:α->List AV}{l:List α}{a:AV}{u t:Nat}{m:Mem}{y e:TypeId}(ht:Tryz.prog.underlying y=some (.slice e))(h:Gr z enc u t m a l):sLen Tryz.prog y a=some (I l.length):=by
 rcases h with ⟨rfl,rfl⟩|⟨s,ver,rfl,hg⟩
 .exact xqq ht
 .rfl
theorem xmy{α:Type}{enc:α->List AV}{m:Mem}{l:List α}{k:Nat}(hk:k<l.length)(j:Nat){v:AV}(hv:((enc l[k]).drop j).head?=some v):sLd false 1 (.plit (((l.drop k).flatMap enc).drop j)) m=some v:=by
 rw[xl7 hk,x139]
 have hj:j<(enc l[k]).length:=by
  rcases x13a j (enc l[k]).length with h|h
  .exact h
  .rw[x134 h]at hv;cases hv
 rw[x174 (by omega)]
 cases hd:(enc l[k]).drop j with
 |nil=>rw[hd]at hv;cases hv
 |cons x r=>
  rw[hd]at hv
  simp at hv
  subst hv
  rfl
end Go.Ix
