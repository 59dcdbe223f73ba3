import Derived.Test.YtdfahbenacjgeaaFxCall
import Derived.Test.YtdfahbenacjgeaaFxOps
set_option linter.unusedSimpArgs false
namespace Go.Ix
open Go.Proofs
variable{R:Type}{P:Program}{m:Mem}
@[simp] theorem u5(x y:Int):rE (I x) (I y)=some (I (w64 (x+y))):=_root_.id rfl
@[simp] theorem xV(x y:Int):rP (I x) (I y)=some (I (w64 (x-y))):=_root_.id rfl
@[simp] theorem sMul_I(x y:Int):yO (I x) (I y)=some (I (w64 (x*y))):=_root_.id rfl
@[simp] theorem sK(x y:Int):sLt (I x) (I y)=some (B (decide (x<y))):=_root_.id rfl
@[simp] theorem sLe_I(x y:Int):sLe (I x) (I y)=some (B (decide (x<=y))):=_root_.id rfl
@[simp] theorem E7(x y:Int):sGt (I x) (I y)=some (B (decide (y<x))):=_root_.id rfl
@[simp] theorem sGe_I(x y:Int):sGe (I x) (I y)=some (B (decide (y<=x))):=_root_.id rfl
@[simp] theorem sEq_I(x y:Int):sEq (I x) (I y)=some (B (decide (x=y))):=_root_.id rfl
@[simp] theorem z9(x y:Int):sNe (I x) (I y)=some (B (!decide (x=y))):=_root_.id rfl
@[simp] theorem sNeg_I(x:Int):yP (I x)=some (I (w64 (0-x))):=_root_.id rfl
@[simp] theorem sNot_B(b:Bool):rW (B b)=some (B (!b)):=_root_.id rfl
@[simp] theorem sMin_I(x y:Int):sMin (I x) (I y)=some (I (if y<x then y else x)):=_root_.id rfl
@[simp] theorem sMax_I(x y:Int):sMax (I x) (I y)=some (I (if y > x then y else x)):=_root_.id rfl
theorem sQuo_I{x y:Int}(h:y≠0):xT (I x) (I y)=some (I (w64 (x.tdiv y))):=by simp[xT,h]
theorem K0{x y:Int}(h:y≠0):s9 (I x) (I y)=some (I (x.tmod y)):=by simp[s9,h]
@[simp] theorem A0(c:Bool)(a b:AV):qU (B c) a b=some (bif c then a else b):=_root_.id rfl
@[simp] theorem sM(a b:Option R):qL (B true) a b=a:=_root_.id rfl
@[simp] theorem vP(a b:Option R):qL (B false) a b=b:=_root_.id rfl
theorem K4(c:Bool)(a b:Option R):qL (B c) a b=bif c then a else b:=by cases c<;>rfl
@[simp] theorem yV(b:Bool):sW (B b) true=b:=by cases b<;>rfl
@[simp] theorem sW_f(b:Bool):sW (B b) false=!b:=by cases b<;>rfl
@[simp] theorem sW_U(w:Bool):sW U w=false:=_root_.id rfl
@[simp] theorem sExt_tup(l:List AV)(i:Nat):sB (.tup l) i=l[i]?:=_root_.id rfl
@[simp] theorem S4(x:Int):(I x).cells=[I x]:=_root_.id rfl
@[simp] theorem cells_B(x:Bool):(B x).cells=[B x]:=_root_.id rfl
@[simp] theorem x6j(l:List AV):(AV.agg l).cells=l:=_root_.id rfl
@[simp] theorem cells_slit(l:List AV)(n:Nat)(x:Bool):(AV.slit l n x).cells=[.slit l n x]:=_root_.id rfl
@[simp] theorem cells_sref(id:Id)(ver off n z:Nat)(f:Bool):(AV.sref id ver off n z f).cells=[.sref id ver off n z f]:=_root_.id rfl
@[simp] theorem cells_nilS:(nilS).cells=[nilS]:=_root_.id rfl
@[simp] theorem one_I(x:Int):(I x).one=true:=_root_.id rfl
@[simp] theorem one_B(x:Bool):(B x).one=true:=_root_.id rfl
@[simp] theorem one_slit(l:List AV)(n:Nat)(x:Bool):(AV.slit l n x).one=true:=_root_.id rfl
@[simp] theorem one_sref(id:Id)(ver off n z:Nat)(f:Bool):(AV.sref id ver off n z f).one=true:=_root_.id rfl
@[simp] theorem one_nilS:(nilS).one=true:=_root_.id rfl
@[simp] theorem one_clo(f:FuncId)(l:List AV):(AV.clo f l).one=true:=_root_.id rfl
def still1:AV->Bool
 | .sc _ | .slit .. | .plit _ | .un _=>true
 |_=>false
def still:AV->Bool
 | .sc _ | .slit .. | .plit _ | .un _=>true
 | .agg l=>l.all still1
 | .clo _ l=>l.all still1
 |_=>false
@[simp] theorem still1_sc(v:Value):still1 (.sc v)=true:=_root_.id rfl
@[simp] theorem still1_slit(l:List AV)(n:Nat)(x:Bool):still1 (.slit l n x)=true:=_root_.id rfl
@[simp] theorem still_sc(v:Value):still (.sc v)=true:=_root_.id rfl
@[simp] theorem still_slit(l:List AV)(n:Nat)(x:Bool):still (.slit l n x)=true:=_root_.id rfl
@[simp] theorem still_agg(l:List AV):still (.agg l)=l.all still1:=_root_.id rfl
@[simp] theorem still_clo(f:FuncId)(l:List AV):still (.clo f l)=l.all still1:=_root_.id rfl
theorem A1{a:AV}(objs:Id->Option Ob)(k:Nat)(h:still1 a=true):frz objs (k+1) a=some a:=by cases a<;>simp_all [frz,still1]
theorem d5{f:AV->Option AV}:∀{l:List AV},(∀a∈l,f a=some a)->l.mapM f=some l
 |[],_=>rfl
 |a::l,h=>by rw[xcx,h a (xcf ..),d5 λb hb=>h b (xc9 _ hb)];rfl
theorem xW{a:AV}(objs:Id->Option Ob)(k:Nat)(h:still a=true):frz objs (k+2) a=some a:=by
 cases a with
 |agg l=>
  simp only[still,xc8]at h;have:l.mapM (frz objs (k+1))=some l:=d5 λb hb=>A1 objs k (h b hb)
  show(l.mapM (frz objs (k+1))).map AV.agg=_;rw[this];rfl
 |clo f l=>
  simp only[still,xc8]at h;have:l.mapM (frz objs (k+1))=some l:=d5 λb hb=>A1 objs k (h b hb)
  show(l.mapM (frz objs (k+1))).map (AV.clo f)=_;rw[this];rfl
 |_=>first|(exact A1 objs (k+1) rfl)|(simp[still]at h)
theorem K5{a:AV}(objs:Id->Option Ob)(k:Nat)(h:still1 a=true):reach objs (k+1) a=[]:=by cases a<;>simp_all [reach,still1]
theorem x9i{a:AV}(objs:Id->Option Ob)(k:Nat)(h:still a=true):reach objs (k+2) a=[]:=by
 cases a with
 |agg l=>simp only[still,xc8]at h;show l.flatMap (reach objs (k+1))=[];rw[xeg];exact λb hb=>K5 objs k (h b hb)
 |clo f l=>simp only[still,xc8]at h;show l.flatMap (reach objs (k+1))=[];rw[xeg];exact λb hb=>K5 objs k (h b hb)
 |_=>first|(exact K5 objs (k+1) rfl)|(simp[still]at h)
theorem E8{l:List AV}(objs:Id->Option Ob)(h:l.all still=true):l.mapM (frz objs qN)=some l:=
 d5 λa ha=>xW objs 4 (xc8.mp h a ha)
theorem S5{l:List AV}(objs:Id->Option Ob)(h:l.all still=true):l.flatMap (reach objs qN)=[]:=by rw[xeg];exact λa ha=>x9i objs 4 (xc8.mp h a ha)
theorem call0{call:qI}{f:FuncId}{l:List AV}{m m':Mem}{r:AV}(hl:l.all still=true)(h:call [] f l mem0=some (r,m'))(hr:still r=true):qK call f l m=some (r,m):=by unfold qK;rw[E8 _ hl];simp only[h];rw[show frz m'.get qN r=some r from xW _ 4 hr,S5 _ hl];rfl
theorem call3{call:qI}{f:FuncId}{l:List AV}{m m':Mem}{r:AV}(hl:l.all still=true)(h:call [] f l mem0=some (r,m'))(hr:xI r=true):I7 call f l m=some (r,m):=by unfold I7;rw[E8 _ hl];simp only[h,xc2 hr]
theorem call0_tup{call:qI}{f:FuncId}{l:List AV}{m m':Mem}{r:List AV}(hl:l.all still=true)(h:call [] f l mem0=some (.tup r,m'))(hr:r.all still=true):qK call f l m=some (.tup r,m):=by
 unfold qK;rw[E8 _ hl];simp only[h];have:frz m'.get qN (.tup r)=some (.tup r):=by
  have h2:r.mapM (frz m'.get 5)=some r:=d5 λa ha=>xW _ 3 (xc8.mp hr a ha)
  show(r.mapM (frz m'.get 5)).map AV.tup=_;rw[h2];rfl
 rw[this,S5 _ hl];rfl
def Ans(call:qI)(f:FuncId)(l:List AV)(r:AV):Prop:=∃m',call [] f l mem0=some (r,m')
theorem Ans.call0{call:qI}{f:FuncId}{l:List AV}{m:Mem}{r:AV}(h:Ans call f l r)(hl:l.all still=true)(hr:still r=true):qK call f l m=some (r,m):=
 let⟨_,h⟩:=h;Go.Ix.call0 hl h hr
theorem Ans.call0_tup{call:qI}{f:FuncId}{l:List AV}{m:Mem}{r:List AV}(h:Ans call f l (.tup r))(hl:l.all still=true)(hr:r.all still=true):qK call f l m=some (.tup r,m):=
 let⟨_,h⟩:=h;Go.Ix.call0_tup hl h hr
def Sl{α:Type}(enc:α->List AV)(a:AV)(l:List α):Prop:=(a=nilS/\l=[])\/∃x,a=.slit (l.flatMap enc) l.length x
variable{α:Type}{enc:α->List AV}{z:Nat}{a:AV}{l:List α}
theorem vI(hz:∀x,(enc x).length=z):∀l:List α,(l.flatMap enc).length=l.length*z
 |[]=>by simp
 |x::l=>by simp only[xct,xdx,hz,vI hz l,xco,xd6];omega
theorem S6(hz:∀x,(enc x).length=z):∀(l:List α) (k:Nat),(l.flatMap enc).drop (k*z)=(l.drop k).flatMap enc
 |l,0=>by simp
 |[],k+1=>by simp
 |x::l,k+1=>by rw[xct,xd6,xfq,xdg (by rw[hz];omega),xej,hz,Nat.add_sub_cancel,S6 hz l k,xe0]
theorem uO{l:List α}{k:Nat}(h:k<l.length):l.drop k=l[k]::l.drop (k+1):=List.drop_eq_getElem_cons h
theorem d6{l r:List α}{x:α}{k:Nat}(h:l.drop k=x::r):∃hk:k<l.length,l[k]=x/\l.drop (k+1)=r:=by
 have hk:k<l.length:=by
  rcases xcu k l.length with h'|h'
  .exact h'
  .rw[xdg h']at h;cases h
 rw[uO hk]at h;injection h with he hd;exact⟨hk,he,hd⟩
theorem Sl.still1(h:Sl enc a l):still1 a=true:=by rcases h with ⟨rfl,_⟩|⟨x,rfl⟩<;>rfl
theorem Sl.still(h:Sl enc a l):still a=true:=by rcases h with ⟨rfl,_⟩|⟨x,rfl⟩<;>rfl
theorem Sl.clean(h:Sl enc a l):clean a=true:=by rcases h with ⟨rfl,_⟩|⟨x,rfl⟩<;>rfl
theorem Sl.clean1(h:Sl enc a l):clean1 a=true:=by rcases h with ⟨rfl,_⟩|⟨x,rfl⟩<;>rfl
theorem Sl.cells(h:Sl enc a l):a.cells=[a]:=by rcases h with ⟨rfl,_⟩|⟨x,rfl⟩<;>rfl
theorem Sl.one(h:Sl enc a l):a.one=true:=by rcases h with ⟨rfl,_⟩|⟨x,rfl⟩<;>rfl
theorem Sl.tX(h:Sl enc a l):tX a=some []:=by rcases h with ⟨rfl,_⟩|⟨x,rfl⟩<;>rfl
theorem Sl.lit(l:List α)(x:Bool):Sl enc (.slit (l.flatMap enc) l.length x) l:=Or.inr ⟨x,rfl⟩
theorem Sl.elems(hz:∀x,(enc x).length=z)(h:Sl enc a l)(objs:Id->Option Ob):elems objs z a=some (l.flatMap enc,l.length):=by
 rcases h with ⟨rfl,rfl⟩|⟨x,rfl⟩
 .rfl
 .have h1:=vI hz l;simp[Ix.elems,h1,xca]
theorem E9{t e:TypeId}(ht:P.underlying t=some (.slice e)):qJ P t nilS=some (I 0):=by have:qR P (Builtin.len_ #[t] 0 #[Value.slice none 0 0])=some (.int .i64 0):=(by simp[Builtin.len_,underlying,program,Bind.bind,Sem.bind,qR,Pure.pure,ht,goInt]);show(qR P (Builtin.len_ #[t] 0 #[Value.slice none 0 0])).map sE=_;rw[this];rfl
theorem Sl.len{t e:TypeId}(ht:P.underlying t=some (.slice e))(h:Sl enc a l):qJ P t a=some (I l.length):=by
 rcases h with ⟨rfl,rfl⟩|⟨x,rfl⟩
 .exact E9 ht
 .rfl
theorem Sl.ix(hz:∀x,(enc x).length=z)(h:Sl enc a l){k:Nat}(hk:k<l.length):sIx z a (I k)=some (.plit ((l.drop k).flatMap enc)):=by
 rcases h with ⟨rfl,rfl⟩|⟨x,rfl⟩
 .simp at hk
 .have:(0:Int)<=(k:Int)/\(k:Int)<(l.length:Int):=(by omega);simp[sIx,asI,S6 hz,hk]
theorem vW{m:Mem}(hz:∀x,(enc x).length=z)(h0:0<z){k:Nat}(hk:k<l.length):sLd true z (.plit ((l.drop k).flatMap enc)) m=some (.agg (enc l[k])):=by
 have h1:=hz l[k];rw[uO hk,xct];simp only[sLd];have hne:(enc l[k]++(l.drop (k+1)).flatMap enc).isEmpty=false:=by
  cases he:enc l[k]with
  |nil=>rw[he]at h1;simp at h1;omega
  |cons=>rfl
 rw[hne];simp only[xcv,xck,rd];rw[xc2 trivial,xc2 (by rw[xdx];omega),xg9 (by omega),xca (by omega)]
@[simp] theorem A2(off:Nat)(id:Id)(ver o:Nat):sFA off (.ptr id ver o)=some (.ptr id ver (o+off)):=_root_.id rfl
@[simp] theorem S7(off:Nat)(cs:List AV):sFA off (.plit cs)=some (.plit (cs.drop off)):=_root_.id rfl
@[simp] theorem ld_cons{m:Mem}(x:AV)(cs:List AV):sLd false 1 (.plit (x::cs)) m=some x:=_root_.id rfl
theorem ld_ptr{m:Mem}{id:Id}{g:Bool}{z off ver:Nat}{cs:List AV}{fz:Bool}(h:m.get id=some (.row cs ver fz)):sLd g z (.ptr id ver off) m=rd g z (cs.drop off):=by simp[sLd,h]
@[simp] theorem sLd_cons(g:Bool)(z:Nat)(x:AV)(cs:List AV)(m:Mem):sLd g z (.plit (x::cs)) m=rd g z (x::cs):=_root_.id rfl
theorem st_ptr{m:Mem}{id:Id}{z off ver:Nat}{cs:List AV}{x:AV}{k:Mem->Option R}(h:m.get id=some (.row cs ver false))(h1:x.cells.length=z)(h2:off+z<=cs.length)(h3:x.cells.all AV.one=true) :
 sSt z (.ptr id ver off) x m k=k (m.set id (.row (rK cs off x.cells) ver false)):=by
 simp only[sSt,h];rw[xc2 ⟨trivial,h1,h2,h3⟩]
@[simp] theorem Mem.next_set(m:Mem)(i:Id)(o:Ob):(m.set i o).next=m.next:=_root_.id rfl
@[simp] theorem Mem.next_new(m:Mem)(i:Id)(o:Ob):(m.new i o).next=m.next:=_root_.id rfl
theorem bind_cg{α β:Type}{x y:Option α}{f:α->Option β}(h:x=y):x.bind f=y.bind f:=by rw[h]
theorem cond_cg{α:Type}{x y:Bool}{a b:α}(h:x=y):cond x a b=cond y a b:=by rw[h]
theorem sCond_cg{x y:AV}{a b:Option R}(h:x=y):qL x a b=qL y a b:=by rw[h]
attribute [congr] bind_cg cond_cg sCond_cg
theorem qV{α β:Type}(a:α)(f:α->Option β):(some a).bind f=f a:=_root_.id rfl
theorem sN{α:Type}(a b:α):cond true a b=a:=_root_.id rfl
theorem uZ{α:Type}(a b:α):cond false a b=b:=_root_.id rfl
attribute [simp high] qV sN uZ
attribute [simp ↓ high] sM vP qV sN uZ
@[simp ↓] theorem x6k(cs:List AV)(id:Id)(m:Mem)(k:AV->Mem->Option R):rG cs id m k=k (.ptr id 0 0) (m.new id (.row cs 0 false)):=_root_.id rfl
def xX(z ver off:Nat)(x:AV):Option Ob->Option Ob
 |some (.row cs v false)=>bif decide (v=ver/\x.cells.length=z/\off+z<=cs.length/\(x.cells.all AV.one)=true)then some (.row (rK cs off x.cells) v false)else none
 |_=>none
theorem A3(z:Nat)(id:Id)(ver off:Nat)(x:AV)(m:Mem)(k:Mem->Option R):sSt z (.ptr id ver off) x m k=(xX z ver off x (m.get id)).bind λo=>k (m.set id o):=by
 cases h:m.get id with
 |none=>simp only[sSt,h];rfl
 |some o=>
  cases o with
  |map es=>simp only[sSt,h];rfl
  |lp d=>simp only[sSt,h];rfl
  |bld t e l=>simp only[sSt,h];rfl
  |row cs v f=>
   cases f with
   |true=>simp only[sSt,h];rfl
   |false=>
    simp only[sSt,h,xX];by_cases hc:v=ver/\x.cells.length=z/\off+z<=cs.length/\(x.cells.all AV.one)=true
    .rw[xc2 hc,xdl hc];rfl
    .rw[xc1 hc,xgc hc];rfl
@[simp ↓] theorem yW(c:AV)(w:Bool)(x:AV)(m:Mem)(k:AV×Mem->Option R):sGv c w x m k=(bif sW c w then some (x,m)else some (U,m)).bind k:=_root_.id rfl
@[simp ↓] theorem yX(c:AV)(w:Bool)(x:Option AV)(m:Mem)(k:AV×Mem->Option R):sGo c w x m k=(bif sW c w then x.bind λv=>some (v,m)else some (U,m)).bind k:=_root_.id rfl
@[simp ↓] theorem F0(c:AV)(w:Bool)(x:Option (AV×Mem))(m:Mem)(k:AV×Mem->Option R):sGp c w x m k=(bif sW c w then x.bind λp=>some (p.1,p.2)else some (U,m)).bind k:=_root_.id rfl
theorem F1(z ver off:Nat)(x:AV)(cs:List AV)(v:Nat):xX z ver off x (some (.row cs v false))=bif decide (v=ver/\x.cells.length=z/\off+z<=cs.length/\(x.cells.all AV.one)=true)then some (.row (rK cs off x.cells) v false)else none:=_root_.id rfl
theorem S8(x:AV)(id:Id)(m:Mem)(k:AV->Mem->Option R):sA x id m k=bif x.cells.all AV.one then k (.ptr id 0 0) (m.new id (.row x.cells 0 false))else none:=by
 unfold sA;split
 .rename_i e;rw[e];rfl
 .rename_i e;rw[xgb]at e;rw[e];rfl
def A4(g:Bool)(z ver off:Nat):Option Ob->Option AV
 |some (.row cs v _)=>bif Nat.beq v ver then rd g z (cs.drop off)else none
 |_=>none
theorem vJ(g:Bool)(z:Nat)(id:Id)(ver off:Nat)(m:Mem):sLd g z (.ptr id ver off) m=A4 g z ver off (m.get id):=by
 cases h:m.get id with
 |none=>simp only[sLd,h];rfl
 |some o=>
  cases o with
  |map es=>simp only[sLd,h];rfl
  |lp d=>simp only[sLd,h];rfl
  |bld t e l=>simp only[sLd,h];rfl
  |row cs v f=>
   simp only[sLd,h,A4];by_cases hc:v=ver
   .subst hc;simp
   .rw[xc1 hc,show Nat.beq v ver=false from by rw[xcz];intro x;exact hc (xcb x)];rfl
theorem xY(g:Bool)(z ver off:Nat)(cs:List AV)(v:Nat)(f:Bool):A4 g z ver off (some (.row cs v f))=bif Nat.beq v ver then rd g z (cs.drop off)else none:=_root_.id rfl
theorem rd_t(z:Nat)(cs:List AV):rd true z cs=bif decide (z<=cs.length)then some (.agg (cs.take z))else none:=by unfold rd;by_cases h:z<=cs.length<;>simp[h]
theorem xZ(z:Nat)(a:AV)(cs:List AV):rd false z (a::cs)=some a:=_root_.id rfl
theorem rd_1(a:AV)(cs:List AV):rd true 1 (a::cs)=some (.agg [a]):=by rw[rd_t,xco,xdl (by omega)];rfl
theorem rd_2(a b:AV)(cs:List AV):rd true 2 (a::b::cs)=some (.agg [a,b]):=by rw[rd_t];simp only[xco];rw[xdl (by omega)];rfl
theorem rd_3(a b c:AV)(cs:List AV):rd true 3 (a::b::c::cs)=some (.agg [a,b,c]):=by rw[rd_t];simp only[xco];rw[xdl (by omega)];rfl
theorem rd_4(a b c d:AV)(cs:List AV):rd true 4 (a::b::c::d::cs)=some (.agg [a,b,c,d]):=by rw[rd_t];simp only[xco];rw[xdl (by omega)];rfl
theorem stRow_4(ver:Nat)(a b c d a' b' c' d':AV):xX 4 ver 0 (.agg [a',b',c',d']) (some (.row [a,b,c,d] ver false))=bif[a',b',c',d'].all AV.one then some (.row [a',b',c',d'] ver false)else none:=by rw[F1];simp[rK]
theorem splice_eq(cs:List AV)(off:Nat)(vs:List AV):rK cs off vs=cs.take off++(vs++cs.drop (off+vs.length)):=_root_.id rfl
attribute [simp high] rd_1 rd_2 rd_3 rd_4 stRow_4
attribute [simp] vJ xY F1 rd_t xZ splice_eq Mem.get_set Mem.get_new qQ
attribute [simp ↓] A3 S8
def intE(x:Int):List AV:=[I x]
theorem rX(x:Int):(intE x).length=1:=_root_.id rfl
theorem Sl.ixI(hz:∀x,(enc x).length=z)(h:Sl enc a l){k:Int}(h0:0<=k)(hk:k<l.length):sIx z a (I k)=some (.plit ((l.drop k.toNat).flatMap enc)):=by have:=h.ix hz (k:=k.toNat) (by omega);rwa[xd7 h0]at this
def at0(l:List Int)(k:Nat):Int:=l.getD k 0
theorem rJ{l:List Int}{k:Nat}(h:k<l.length):at0 l k=l[k]:=by unfold at0;rw[xcg,xci h];rfl
theorem vQ{m:Mem}{l:List Int}{k:Nat}(hk:k<l.length):sLd false 1 (.plit ((l.drop k).flatMap intE)) m=some (I (at0 l k)):=by rw[uO hk,xct,rJ hk];rfl
theorem mkM_0(l:List AV):mkM 0 l=bif l.all clean then 2 else 0:=by unfold mkM;cases h:l.all clean<;>simp[h]
theorem mkM_1(l:List AV):mkM 1 l=bif l.all clean then 2 else 0:=by unfold mkM;cases h:l.all clean<;>simp[h]
@[simp] theorem mkM_3(l:List AV):mkM 3 l=1:=_root_.id rfl
@[simp] theorem mkM_4(l:List AV):mkM 4 l=1:=_root_.id rfl
@[simp] theorem clean_sc(v:Value):clean (.sc v)=true:=_root_.id rfl
@[simp] theorem clean_agg(l:List AV):clean (.agg l)=l.all clean1:=_root_.id rfl
@[simp] theorem clean_slit(l:List AV)(n:Nat)(x:Bool):clean (.slit l n x)=true:=_root_.id rfl
@[simp] theorem clean1_sc(v:Value):clean1 (.sc v)=true:=_root_.id rfl
@[simp] theorem clean1_slit(l:List AV)(n:Nat)(x:Bool):clean1 (.slit l n x)=true:=_root_.id rfl
@[simp] theorem ble_2:Nat.ble 1 2=true:=_root_.id rfl
@[simp] theorem ble_1:Nat.ble 1 1=true:=_root_.id rfl
@[simp] theorem cAp_R2(a:AV):cAp none (tR a) 2=true:=by unfold tR;split<;>rfl
@[simp] theorem cAp_R1(a:AV):cAp none (tR a) 1=true:=by unfold tR;split<;>rfl
attribute [simp] mkM_0 mkM_1
theorem x6l{call:qI}{f:FuncId}{l:List AV}{m m':Mem}{r r':AV}(hl:l.all still=true)(h:call [] f l mem0=some (r,m'))(hr:frz m'.get qN r=some r'):qK call f l m=some (r',m):=by unfold qK;rw[E8 _ hl];simp only[h,hr];rw[S5 _ hl];rfl
theorem u6{objs:Id->Option Ob}{id:Id}{cs:List AV}{ver off n z k:Nat}{f x:Bool}(h:objs id=some (.row cs ver f))(hl:off+n*z<=cs.length)(hs:((cs.drop off).take (n*z)).all still1=true) :
 frz objs (k+2) (.sref id ver off n z x)=some (.slit ((cs.drop off).take (n*z)) n false):=by
 have h2:((cs.drop off).take (n*z)).mapM (frz objs (k+1))=some ((cs.drop off).take (n*z)):=d5 λa ha=>A1 objs k (xc8.mp hs a ha)
 simp only[frz,h];rw[xc2 ⟨trivial,hl⟩];show((((cs.drop off).take (n*z)).mapM (frz objs (k+1))).map λl=>AV.slit l n false)=_;rw[h2];rfl
theorem x6m{size bytes:Nat}{id:Id}{src:List AV}{q:Nat}{m:Mem}{k:AV->Mem->Option R}(h:qW q bytes) :
 rL size bytes id (some (src,q)) (.slit [] 0 true) m k=bif decide (q=0)then k (.slit [] 0 true) m else k (.sref id 0 0 q size true) (m.new id (.row src 0 false)):=by
 simp only[rL,xdu,xd5,List.take_nil,xej];rw[xc2 (xf7 _)];by_cases hq:q=0
 .rw[xc2 hq,xdl hq];rfl
 .rw[xc1 hq,xc2 h,xgc hq];rfl
theorem S9{z:List AV}{size:Nat}{id:Id}{m:Mem}{k:AV->Mem->Option R}:sY z [] 0 size id m k=k (.slit [] 0 true) m:=by simp[sY,tP,sF]
theorem d7(he:∀x,(enc x).all still1=true):∀l:List α,(l.flatMap enc).all still1=true
 |[]=>rfl
 |x::l=>by rw[xct,List.all_append,he,d7 he l];rfl
theorem yY(x:Int):(intE x).all still1=true:=rfl
attribute [simp ↓] S9
theorem mkLit_one{z:AV}{x:AV}{id:Id}{m:Mem}{k:AV->Mem->Option R}(h1:x.cells=[x])(h2:x.one=true)(h3:clean1 x=true):sY [z] [(0,1,x)] 1 1 id m k=k (.slit [x] 1 true) m:=by simp[sY,tP,sF,h1,h2,h3,xfe]
@[simp ↓] theorem T0{z:AV}{x:Int}{id:Id}{m:Mem}{k:AV->Mem->Option R}:sY [z] [(0,1,I x)] 1 1 id m k=k (.slit [I x] 1 true) m:=mkLit_one rfl rfl rfl
def Gr{α:Type}(z:Nat)(enc:α->List AV)(u t:Nat)(m:Mem)(a:AV)(l:List α):Prop:=
 (a=nilS/\l=[])\/∃s ver,a=.sref (u,s,t) ver 0 l.length z true/\m.get (u,s,t)=some (.row (l.flatMap enc) ver false)
theorem Gr.nil{u t:Nat}{m:Mem}:Gr z enc u t m nilS []:=Or.inl ⟨rfl,rfl⟩
theorem Gr.frame{u t:Nat}{m m':Mem}(h:Gr z enc u t m a l)(hm:∀s,m'.get (u,s,t)=m.get (u,s,t)):Gr z enc u t m' a l:=by
 rcases h with h|⟨s,ver,h1,h2⟩
 .exact Or.inl h
 .exact Or.inr ⟨s,ver,h1,by rw[hm];exact h2⟩
theorem Gr.app(hz:∀x,(enc x).length=z)(h0:0<z){u t s0 bytes:Nat}{m:Mem}(hr:qW (l.length+1) bytes)(h:Gr z enc u t m a l)(x:α) :
 ∃a' m',(∀{R:Type} (k:AV->Mem->Option R),rL z bytes (u,s0,t) (some (enc x,1)) a m k=k a' m')/\Gr z enc u t m' a' (l++[x])/\m'.next=m.next/\∀j:Id,j.2.2≠t->m'.get j=m.get j:=by
 rcases h with ⟨rfl,rfl⟩|⟨s,ver,rfl,hg⟩
 .refine⟨.sref (u,s0,t) 0 0 1 z true,m.new (u,s0,t) (.row (enc x) 0 false),λk=>?_,Or.inr ⟨s0,0,rfl,by simp⟩,rfl,λj hj=>?_⟩
  .simp only[rL];rw[xc1 (by omega),xc2 (by simpa using hr)]
  .rw[Mem.get_new,xc1 (by rintro rfl;exact hj rfl)]
 .have hl:=vI hz l;refine⟨.sref (u,s,t) (ver+1) 0 (l.length+1) z true,m.set (u,s,t) (.row (l.flatMap enc++enc x) (ver+1) false),λk=>?_,Or.inr ⟨s,ver+1,by simp,by simp⟩,rfl,λj hj=>?_⟩
  .simp only[rL,hg];rw[xc2 ⟨trivial,trivial,by omega,hr⟩,xc1 (by omega),xc1 (by rw[hl,xd6];omega),xcd,xca (by omega)]
  .rw[Mem.get_set,xc1 (by rintro rfl;exact hj rfl)]
theorem Gr.frz(hz:∀x,(enc x).length=z)(hs:∀x,(enc x).all still1=true){u t:Nat}{m:Mem}(h:Gr z enc u t m a l):∃a',Sl enc a' l/\frz m.get qN a=some a':=by
 rcases h with ⟨rfl,rfl⟩|⟨s,ver,rfl,hg⟩
 .exact⟨nilS,Or.inl ⟨rfl,rfl⟩,rfl⟩
 .have hl:=vI hz l;refine⟨.slit (l.flatMap enc) l.length false,Sl.lit l false,?_⟩
  have:=u6 (objs:=m.get) (id:=(u,s,t)) (cs:=l.flatMap enc) (ver:=ver) (off:=0) (n:=l.length) (z:=z) (k:=4) (f:=false) (x:=true) hg (by omega) (by
   rw[xcd,xca (by omega)];exact d7 hs l)
  rw[xcd,xca (by omega)]at this;exact this
theorem frz_tup{objs:Id->Option Ob}{l:List AV}(h:l.all still=true):Go.Ix.frz objs qN (.tup l)=some (.tup l):=by
 have h2:l.mapM (Go.Ix.frz objs 5)=some l:=d5 λa ha=>xW _ 3 (xc8.mp h a ha)
 show(l.mapM (Go.Ix.frz objs 5)).map AV.tup=_;rw[h2];rfl
theorem rQ:NN=18446744073709551616:=rfl
theorem sBin_0{op:BinOp}{t:TypeId}{x y:Operand}{a b r:AV}(h:y4 P op t x y a b=some r):qT P op t x y a b=some r:=by unfold qT;rw[h]
theorem sCvt_0{s d:TypeId}{a r:AV}(h:cvt0 P s d a=some r):vS P s d a=some r:=by unfold vS;rw[h]
structure Edge where
 fr:Int
 to:Int
 jump:Int
 wt:Int
def Edge.c(e:Edge):List AV:=[I e.fr,I e.to,I e.jump,I e.wt]
theorem Edge.len(e:Edge):e.c.length=4:=rfl
def wi(a b c:Int):Bool:=decide (b<=a/\a<=c)
theorem xC{a b c:Int}(h:wi a b c=true):b<=a/\a<=c:=xdz h
theorem wi_iff{a b c:Int}:wi a b c=true↔b<=a/\a<=c:=xfr
theorem u7(d:Nat)(a b c:Int)(m:Mem):qK (qG (d+1)) aH [I a,I b,I c] m=some (B (wi a b c),m):=by refine call0 rfl (m':=⟨[],1⟩) ?_ rfl;rw[xz];unfold kV gI wi;by_cases h:b<=a<;>by_cases h2:a<=c<;>simp[h,h2,mem0]
theorem tH:Try.prog.underlying aC=some (.slice sD):=by kernel_rfl
theorem wI:wJ=[I 0]:=by kernel_rfl
abbrev Ints(a:AV)(l:List Int):Prop:=Sl intE a l
def exI(t:List Int)(e:Edge):Int:=at0 t e.to.toNat-at0 t e.fr.toNat+e.jump
def TurnsIn(t:List Int):Prop:=∀x∈t,-1000000<=x/\x<=1000000
theorem TurnsIn.get{t:List Int}(h:TurnsIn t)(k:Nat):-1000000<=at0 t k/\at0 t k<=1000000:=by
 unfold at0;rw[xcg];cases hk:t[k]? with
 |none=>simp
 |some x=>simpa using h x (xd1 hk)
structure EdgeIn (n:Nat) (e:Edge):Prop where
 f0:0<=e.fr
 f1:e.fr<n
 t0:0<=e.to
 t1:e.to<n
 j0:-1000<=e.jump
 j1:e.jump<=1000
 w0:0<=e.wt
 w1:e.wt<=1000
def A5(call:qI)(f:AV)(p:Int->Bool):Prop:=∀(hs:FHs) (x:Int) (m:Mem),∃n,uD call hs 2 f [I x] m=some (B (p x),⟨m.hp,n⟩)
def u9(p:Int->Bool):Int->List Int->Int
 |_,[]=>-1
 |k,x::r=>bif p x then k else u9 p (k+1) r
theorem x6n{p:Int->Bool}:∀{l:List Int} {k:Int},0<=k->(decide (0<=u9 p k l))=l.any p
 |[],k,_=>rfl
 |x::r,k,h=>by
  unfold u9;cases c:p x
  .simp only[cond_false,List.any_cons,c,Bool.false_or];exact x6n (by omega)
  .simp[c,h]
theorem x9j(d:Nat)(hs:FHs){a f:AV}{l:List Int}{p:Int->Bool}(h:Ints a l)(hl:l.length<1000000)(hf:A5 (qG d) f p)(u:Nat):∀(suf:List Int) (k j:Nat) (m:Mem) (fc:Nat),l.drop k=suf->suf.length<j ->
 ∃n,eC (qG d) hs u j a f (I l.length) (I k) m fc=some (I (u9 p k suf),⟨m.hp,n⟩):=by
 intro suf;induction suf with
 |nil=>intro k j m fc hd hj;obtain⟨j,rfl⟩:∃i,j=i+1:=⟨j-1,by simp at hj;omega⟩;have hk:¬((k:Int)<(l.length:Int)):=(by have:=xe7.mp hd;omega);simp only[eC];unfold iH;simp[hk,oJ,u9];exact⟨m.next,rfl⟩
 |cons x r ih=>
  intro k j m fc hd hj;obtain⟨j,rfl⟩:∃i,j=i+1:=⟨j-1,by simp at hj;omega⟩;obtain⟨hk,hke,hd⟩:=d6 hd;have hk':(k:Int)<(l.length:Int):=(by omega);have ix:=h.ix rX hk;have e1:at0 l k=x:=(by rw[rJ hk,hke]);obtain⟨n1,h1⟩:=hf hs x m;obtain⟨n2,h2⟩:=ih (k+1) j ⟨m.hp,n1⟩ (fc+11) hd (by simp at hj;omega);simp only[eC];unfold iH;simp(disch:=omega) [hk',ix,vQ,e1,h1,u9];cases c:p x
  .simp(disch:=omega);exact⟨n2,h2⟩
  .simp
theorem x9k(d:Nat)(hs:FHs){a f:AV}{l:List Int}{p:Int->Bool}(h:Ints a l)(hl:l.length<1000000)(hf:A5 (qG d) f p)(m:Mem):∃n,qG (d+1) hs cO [a,f] m=some (I (u9 p 0 l),⟨m.hp,n⟩):=by obtain⟨n,h'⟩:=x9j d hs h hl hf m.next l 0 NN ⟨m.hp,m.next+1⟩ 4 rfl (by rw[rQ];omega);refine⟨n,?_⟩;rw[x1g];unfold kL iI oL;simp[h.len tH];exact h'
theorem x9l(d:Nat)(hs:FHs){a f:AV}{l:List Int}{p:Int->Bool}(h:Ints a l)(hl:l.length<1000000)(hf:A5 (qG d) f p)(m:Mem):∃n,qG (d+2) hs aS [a,f] m=some (B (l.any p),⟨m.hp,n⟩):=by obtain⟨n,h'⟩:=x9k d hs h hl hf ⟨m.hp,m.next+1⟩;refine⟨n,?_⟩;rw[x15];unfold lB gQ;simp only[h',xeu,sGe_I,x6n (xf3 0)]
theorem x6o(d:Nat){a f:AV}{l:List Int}{p:Int->Bool}(h:Ints a l)(hl:l.length<1000000)(hf:A5 (qG d) f p)(hs:still f=true)(m:Mem):qK (qG (d+2)) aS [a,f] m=some (B (l.any p),m):=by obtain⟨n,h'⟩:=x9l d [] h hl hf mem0;exact call0 (by simp[h.still,hs]) h' rfl
end Go.Ix
