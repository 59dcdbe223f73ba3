import Derived.Test.YtgediplphidhpaaGreatFxCall
import Derived.Test.YtgediplphidhpaaGreatFxOps
import Derived.Laws.Strings
set_option linter.unusedSimpArgs false
namespace Go.Ix
open Go.Proofs
variable{R:Type}{P:Program}{m:Mem}
@[simp] theorem xws(x y:Int):sAdd (I x) (I y)=some (I (w64 (x+y))):=_root_.id rfl
@[simp] theorem sSub_I(x y:Int):sSub (I x) (I y)=some (I (w64 (x-y))):=_root_.id rfl
@[simp] theorem sMul_I(x y:Int):sMul (I x) (I y)=some (I (w64 (x*y))):=_root_.id rfl
@[simp] theorem xou(x y:Int):sLt (I x) (I y)=some (B (decide (x<y))):=_root_.id rfl
@[simp] theorem sLe_I(x y:Int):sLe (I x) (I y)=some (B (decide (x<=y))):=_root_.id rfl
@[simp] theorem sGt_I(x y:Int):sGt (I x) (I y)=some (B (decide (y<x))):=_root_.id rfl
@[simp] theorem sGe_I(x y:Int):sGe (I x) (I y)=some (B (decide (y<=x))):=_root_.id rfl
@[simp] theorem sEq_I(x y:Int):sEq (I x) (I y)=some (B (decide (x=y))):=_root_.id rfl
@[simp] theorem sNe_I(x y:Int):sNe (I x) (I y)=some (B (!decide (x=y))):=_root_.id rfl
@[simp] theorem sNeg_I(x:Int):sNeg (I x)=some (I (w64 (0-x))):=_root_.id rfl
@[simp] theorem sNot_B(b:Bool):sNot (B b)=some (B (!b)):=_root_.id rfl
@[simp] theorem sMin_I(x y:Int):sMin (I x) (I y)=some (I (if y<x then y else x)):=_root_.id rfl
@[simp] theorem sMax_I(x y:Int):sMax (I x) (I y)=some (I (if y > x then y else x)):=_root_.id rfl
theorem xr9{x y:Int}(h:y≠0):sQuo (I x) (I y)=some (I (w64 (x.tdiv y))):=by simp[sQuo,h]
theorem xrq{x y:Int}(h:y≠0):sRem (I x) (I y)=some (I (x.tmod y)):=by simp[sRem,h]
@[simp] theorem xwt(c:Bool)(a b:AV):xog (B c) a b=some (bif c then a else b):=_root_.id rfl
@[simp] theorem xot(a b:Option R):xnw (B true) a b=a:=_root_.id rfl
@[simp] theorem xpj(a b:Option R):xnw (B false) a b=b:=_root_.id rfl
@[simp] theorem sW_t(b:Bool):sW (B b) true=b:=by cases b<;>rfl
@[simp] theorem sW_f(b:Bool):sW (B b) false=!b:=by cases b<;>rfl
@[simp] theorem sW_U(w:Bool):sW U w=false:=_root_.id rfl
@[simp] theorem sExt_tup(l:List AV)(i:Nat):sExt (.tup l) i=l[i]?:=_root_.id rfl
@[simp] theorem cells_I(x:Int):(I x).cells=[I x]:=_root_.id rfl
@[simp] theorem cells_B(x:Bool):(B x).cells=[B x]:=_root_.id rfl
@[simp] theorem xud(l:List AV):(AV.agg l).cells=l:=_root_.id rfl
@[simp] theorem cells_slit(l:List AV)(n:Nat)(x:Bool):(AV.slit l n x).cells=[.slit l n x]:=_root_.id rfl
@[simp] theorem cells_sref(id:Id)(ver off n z:Nat)(f:Bool):(AV.sref id ver off n z f).cells=[.sref id ver off n z f]:=_root_.id rfl
@[simp] theorem cells_nilS:(nilS).cells=[nilS]:=_root_.id rfl
@[simp] theorem one_I(x:Int):(I x).one=true:=_root_.id rfl
@[simp] theorem one_B(x:Bool):(B x).one=true:=_root_.id rfl
@[simp] theorem one_slit(l:List AV)(n:Nat)(x:Bool):(AV.slit l n x).one=true:=_root_.id rfl
@[simp] theorem one_sref(id:Id)(ver off n z:Nat)(f:Bool):(AV.sref id ver off n z f).one=true:=_root_.id rfl
@[simp] theorem one_nilS:(nilS).one=true:=_root_.id rfl
@[simp] theorem one_clo(f:FuncId)(l:List AV):(AV.clo f l).one=true:=_root_.id rfl
def still1:AV->Bool
 | .sc _ | .slit .. | .plit _ | .un _=>true
 |_=>false
def still:AV->Bool
 | .sc _ | .slit .. | .plit _ | .un _=>true
 | .agg l=>l.all still1
 | .clo _ l=>l.all still1
 |_=>false
@[simp] theorem still1_sc(v:Value):still1 (.sc v)=true:=_root_.id rfl
@[simp] theorem still1_slit(l:List AV)(n:Nat)(x:Bool):still1 (.slit l n x)=true:=_root_.id rfl
@[simp] theorem still_sc(v:Value):still (.sc v)=true:=_root_.id rfl
@[simp] theorem still_slit(l:List AV)(n:Nat)(x:Bool):still (.slit l n x)=true:=_root_.id rfl
@[simp] theorem still_agg(l:List AV):still (.agg l)=l.all still1:=_root_.id rfl
@[simp] theorem still_clo(f:FuncId)(l:List AV):still (.clo f l)=l.all still1:=_root_.id rfl
theorem xue{a:AV}(objs:Id->Option Ob)(k:Nat)(h:still1 a=true):frz objs (k+1) a=some a:=by
 cases a<;>simp_all [frz,still1]
theorem xuf{f:AV->Option AV}:∀{l:List AV},(∀a∈l,f a=some a)->l.mapM f=some l
 |[],_=>rfl
 |a::l,h=>by
  rw[x1a9,h a (x199 ..),xuf λb hb=>h b (x198 _ hb)]
  rfl
theorem xsb{a:AV}(objs:Id->Option Ob)(k:Nat)(h:still a=true):frz objs (k+2) a=some a:=by
 cases a with
 |agg l=>
  simp only[still,x197]at h
  have:l.mapM (frz objs (k+1))=some l:=xuf λb hb=>xue objs k (h b hb)
  show(l.mapM (frz objs (k+1))).map AV.agg=_
  rw[this];rfl
 |clo f l=>
  simp only[still,x197]at h
  have:l.mapM (frz objs (k+1))=some l:=xuf λb hb=>xue objs k (h b hb)
  show(l.mapM (frz objs (k+1))).map (AV.clo f)=_
  rw[this];rfl
 |_=>first|(exact xue objs (k+1) rfl)|(simp[still]at h)
theorem xwu{a:AV}(objs:Id->Option Ob)(k:Nat)(h:still1 a=true):xo2 objs (k+1) a=[]:=by
 cases a<;>simp_all [xo2,still1]
theorem x15i{a:AV}(objs:Id->Option Ob)(k:Nat)(h:still a=true):xo2 objs (k+2) a=[]:=by
 cases a with
 |agg l=>
  simp only[still,x197]at h
  show l.flatMap (xo2 objs (k+1))=[]
  rw[x1bg]
  exact λb hb=>xwu objs k (h b hb)
 |clo f l=>
  simp only[still,x197]at h
  show l.flatMap (xo2 objs (k+1))=[]
  rw[x1bg]
  exact λb hb=>xwu objs k (h b hb)
 |_=>first|(exact xwu objs (k+1) rfl)|(simp[still]at h)
theorem xz6{l:List AV}(objs:Id->Option Ob)(h:l.all still=true):l.mapM (frz objs deep)=some l:=
 xuf λa ha=>xsb objs 4 (x197.mp h a ha)
theorem x12k{l:List AV}(objs:Id->Option Ob)(h:l.all still=true):l.flatMap (xo2 objs deep)=[]:=by
 rw[x1bg]
 exact λa ha=>x15i objs 4 (x197.mp h a ha)
theorem call0{call:xnv}{f:FuncId}{l:List AV}{m m':Mem}{r:AV}(hl:l.all still=true)(h:call [] f l mem0=some (r,m'))(hr:still r=true):xnu call f l m=some (r,m):=by
 unfold xnu
 rw[xz6 _ hl]
 simp only[h]
 rw[show frz m'.get deep r=some r from xsb _ 4 hr,x12k _ hl]
 rfl
def Ans(call:xnv)(f:FuncId)(l:List AV)(r:AV):Prop:=∃m',call [] f l mem0=some (r,m')
theorem Ans.call0{call:xnv}{f:FuncId}{l:List AV}{m:Mem}{r:AV}(h:Ans call f l r)(hl:l.all still=true)(hr:still r=true):xnu call f l m=some (r,m):=
 let⟨_,h⟩:=h;Go.Ix.call0 hl h hr
def Sl{α:Type}(enc:α->List AV)(a:AV)(l:List α):Prop:=(a=nilS/\l=[])\/∃x,a=.slit (l.flatMap enc) l.length x
variable{α:Type}{enc:α->List AV}{z:Nat}{a:AV}{l:List α}
theorem xrr(hz:∀x,(enc x).length=z):∀l:List α,(l.flatMap enc).length=l.length*z
 |[]=>by simp
 |x::l=>by simp only[x19b,x1a2,hz,xrr hz l,x19e,x1ak];omega
theorem x12l(hz:∀x,(enc x).length=z):∀(l:List α) (k:Nat),(l.flatMap enc).drop (k*z)=(l.drop k).flatMap enc
 |l,0=>by simp
 |[],k+1=>by simp
 |x::l,k+1=>by
  rw[x19b,x1ak,x1dh,x1bt (by rw[hz];omega),x19r,hz,x1bu,x12l hz l k,List.drop_succ_cons]
theorem xp2{l:List α}{k:Nat}(h:k<l.length):l.drop k=l[k]::l.drop (k+1):=List.drop_eq_getElem_cons h
theorem xpe{l r:List α}{x:α}{k:Nat}(h:l.drop k=x::r):∃hk:k<l.length,l[k]=x/\l.drop (k+1)=r:=by
 have hk:k<l.length:=by
  rcases x19t k l.length with h'|h'
  .exact h'
  .rw[x1bt h']at h;cases h
 rw[xp2 hk]at h
 injection h with he hd
 exact⟨hk,he,hd⟩
theorem Sl.still1(h:Sl enc a l):still1 a=true:=by
 rcases h with ⟨rfl,_⟩|⟨x,rfl⟩<;>rfl
theorem Sl.still(h:Sl enc a l):still a=true:=by
 rcases h with ⟨rfl,_⟩|⟨x,rfl⟩<;>rfl
theorem Sl.clean(h:Sl enc a l):clean a=true:=by
 rcases h with ⟨rfl,_⟩|⟨x,rfl⟩<;>rfl
theorem Sl.clean1(h:Sl enc a l):clean1 a=true:=by
 rcases h with ⟨rfl,_⟩|⟨x,rfl⟩<;>rfl
theorem Sl.cells(h:Sl enc a l):a.cells=[a]:=by
 rcases h with ⟨rfl,_⟩|⟨x,rfl⟩<;>rfl
theorem Sl.one(h:Sl enc a l):a.one=true:=by
 rcases h with ⟨rfl,_⟩|⟨x,rfl⟩<;>rfl
theorem Sl.tX(h:Sl enc a l):tX a=some []:=by
 rcases h with ⟨rfl,_⟩|⟨x,rfl⟩<;>rfl
theorem Sl.lit(l:List α)(x:Bool):Sl enc (.slit (l.flatMap enc) l.length x) l:=Or.inr ⟨x,rfl⟩
theorem Sl.elems(hz:∀x,(enc x).length=z)(h:Sl enc a l)(objs:Id->Option Ob):elems objs z a=some (l.flatMap enc,l.length):=by
 rcases h with ⟨rfl,rfl⟩|⟨x,rfl⟩
 .rfl
 .have h1:=xrr hz l
  simp[Ix.elems,h1,x19p]
theorem xwv{t e:TypeId}(ht:P.underlying t=some (.slice e)):sLen P t nilS=some (I 0):=by
 have:xo1 P (Builtin.len_ #[t] 0 #[Value.slice none 0 0])=some (.int .i64 0):=by
  simp[Builtin.len_,underlying,program,Bind.bind,Sem.bind,xo1,Pure.pure,ht,goInt]
 show(xo1 P (Builtin.len_ #[t] 0 #[Value.slice none 0 0])).map xom=_
 rw[this];rfl
theorem Sl.len{t e:TypeId}(ht:P.underlying t=some (.slice e))(h:Sl enc a l):sLen P t a=some (I l.length):=by
 rcases h with ⟨rfl,rfl⟩|⟨x,rfl⟩
 .exact xwv ht
 .rfl
theorem Sl.ix(hz:∀x,(enc x).length=z)(h:Sl enc a l){k:Nat}(hk:k<l.length):sIx z a (I k)=some (.plit ((l.drop k).flatMap enc)):=by
 rcases h with ⟨rfl,rfl⟩|⟨x,rfl⟩
 .simp at hk
 .have:(0:Int)<=(k:Int)/\(k:Int)<(l.length:Int):=by omega
  simp[sIx,asI,x12l hz,hk]
theorem xtj{m:Mem}(hz:∀x,(enc x).length=z)(h0:0<z){k:Nat}(hk:k<l.length):sLd true z (.plit ((l.drop k).flatMap enc)) m=some (.agg (enc l[k])):=by
 have h1:=hz l[k]
 rw[xp2 hk,x19b]
 simp only[sLd]
 have hne:(enc l[k]++(l.drop (k+1)).flatMap enc).isEmpty=false:=by
  cases he:enc l[k]with
  |nil=>rw[he]at h1;simp at h1;omega
  |cons=>rfl
 rw[hne]
 simp only[x1a0,x19l,rd]
 rw[if_pos trivial,if_pos (by rw[x1a2];omega),x1dg (by omega),x19p (by omega)]
@[simp] theorem sFA_ptr(off:Nat)(id:Id)(ver o:Nat):sFA off (.ptr id ver o)=some (.ptr id ver (o+off)):=_root_.id rfl
@[simp] theorem sFA_plit(off:Nat)(cs:List AV):sFA off (.plit cs)=some (.plit (cs.drop off)):=_root_.id rfl
@[simp] theorem ld_cons{m:Mem}(x:AV)(cs:List AV):sLd false 1 (.plit (x::cs)) m=some x:=_root_.id rfl
theorem xov{m:Mem}{id:Id}{g:Bool}{z off ver:Nat}{cs:List AV}{fz:Bool}(h:m.get id=some (.row cs ver fz)):sLd g z (.ptr id ver off) m=rd g z (cs.drop off):=by
 simp[sLd,h]
@[simp] theorem sLd_cons(g:Bool)(z:Nat)(x:AV)(cs:List AV)(m:Mem):sLd g z (.plit (x::cs)) m=rd g z (x::cs):=_root_.id rfl
theorem xqb{m:Mem}{id:Id}{z off ver:Nat}{cs:List AV}{x:AV}{k:Mem->Option R}(h:m.get id=some (.row cs ver false))(h1:x.cells.length=z)(h2:off+z<=cs.length)(h3:x.cells.all AV.one=true) :
 sSt z (.ptr id ver off) x m k=k (m.set id (.row (xon cs off x.cells) ver false)):=by
 simp only[sSt,h]
 rw[if_pos ⟨trivial,h1,h2,h3⟩]
theorem Mem.get_set_same(m:Mem)(i:Id)(o:Ob):(m.set i o).get i=some o:=by rw[Mem.get_set,if_pos rfl]
theorem Mem.get_new_same(m:Mem)(i:Id)(o:Ob):(m.new i o).get i=some o:=by rw[Mem.get_new,if_pos rfl]
theorem Mem.get_set_ne{m:Mem}{i j:Id}{o:Ob}(h:j≠i):(m.set i o).get j=m.get j:=by rw[Mem.get_set,if_neg h]
theorem Mem.get_new_ne{m:Mem}{i j:Id}{o:Ob}(h:j≠i):(m.new i o).get j=m.get j:=by rw[Mem.get_new,if_neg h]
@[simp] theorem Mem.next_set(m:Mem)(i:Id)(o:Ob):(m.set i o).next=m.next:=_root_.id rfl
@[simp] theorem Mem.next_new(m:Mem)(i:Id)(o:Ob):(m.new i o).next=m.next:=_root_.id rfl
theorem bind_cg{α β:Type}{x y:Option α}{f:α->Option β}(h:x=y):x.bind f=y.bind f:=by rw[h]
theorem cond_cg{α:Type}{x y:Bool}{a b:α}(h:x=y):cond x a b=cond y a b:=by rw[h]
theorem sCond_cg{x y:AV}{a b:Option R}(h:x=y):xnw x a b=xnw y a b:=by rw[h]
attribute [congr] bind_cg cond_cg sCond_cg
theorem xnz{α β:Type}(a:α)(f:α->Option β):(some a).bind f=f a:=_root_.id rfl
theorem xqc{α:Type}(a b:α):cond true a b=a:=_root_.id rfl
theorem xrs{α:Type}(a b:α):cond false a b=b:=_root_.id rfl
attribute [simp high] xnz xqc xrs
attribute [simp ↓ high] xot xpj xnz xqc xrs
@[simp ↓] theorem xww(cs:List AV)(id:Id)(m:Mem)(k:AV->Mem->Option R):xny cs id m k=k (.ptr id 0 0) (m.new id (.row cs 0 false)):=_root_.id rfl
def stRow(z ver off:Nat)(x:AV):Option Ob->Option Ob
 |some (.row cs v false)=>bif decide (v=ver/\x.cells.length=z/\off+z<=cs.length/\(x.cells.all AV.one)=true)then some (.row (xon cs off x.cells) v false)else none
 |_=>none
theorem sSt_ptr(z:Nat)(id:Id)(ver off:Nat)(x:AV)(m:Mem)(k:Mem->Option R):sSt z (.ptr id ver off) x m k=(stRow z ver off x (m.get id)).bind λo=>k (m.set id o):=by
 cases h:m.get id with
 |none=>simp only[sSt,h];rfl
 |some o=>
  cases o with
  |map es=>simp only[sSt,h];rfl
  |lp d=>simp only[sSt,h];rfl
  |row cs v f=>
   cases f with
   |true=>simp only[sSt,h];rfl
   |false=>
    simp only[sSt,h,stRow]
    by_cases hc:v=ver/\x.cells.length=z/\off+z<=cs.length/\(x.cells.all AV.one)=true
    .rw[if_pos hc,x19h hc];rfl
    .rw[if_neg hc,x19w hc];rfl
@[simp ↓] theorem xwx(c:AV)(w:Bool)(x:AV)(m:Mem)(k:AV×Mem->Option R):sGv c w x m k=(bif sW c w then some (x,m)else some (U,m)).bind k:=_root_.id rfl
@[simp ↓] theorem xwy(c:AV)(w:Bool)(x:Option AV)(m:Mem)(k:AV×Mem->Option R):sGo c w x m k=(bif sW c w then x.bind λv=>some (v,m)else some (U,m)).bind k:=_root_.id rfl
@[simp ↓] theorem xwz(c:AV)(w:Bool)(x:Option (AV×Mem))(m:Mem)(k:AV×Mem->Option R):sGp c w x m k=(bif sW c w then x.bind λp=>some (p.1,p.2)else some (U,m)).bind k:=_root_.id rfl
theorem xz7(z ver off:Nat)(x:AV)(cs:List AV)(v:Nat):stRow z ver off x (some (.row cs v false))=bif decide (v=ver/\x.cells.length=z/\off+z<=cs.length/\(x.cells.all AV.one)=true)then some (.row (xon cs off x.cells) v false)else none:=_root_.id rfl
theorem xx0(x:AV)(id:Id)(m:Mem)(k:AV->Mem->Option R):sBox x id m k=bif x.cells.all AV.one then k (.ptr id 0 0) (m.new id (.row x.cells 0 false))else none:=by
 unfold sBox
 split
 .rename_i e;rw[e];rfl
 .rename_i e;rw[x1di]at e;rw[e];rfl
def ldRow(g:Bool)(z ver off:Nat):Option Ob->Option AV
 |some (.row cs v _)=>bif Nat.beq v ver then rd g z (cs.drop off)else none
 |_=>none
theorem xx1(g:Bool)(z:Nat)(id:Id)(ver off:Nat)(m:Mem):sLd g z (.ptr id ver off) m=ldRow g z ver off (m.get id):=by
 cases h:m.get id with
 |none=>simp only[sLd,h];rfl
 |some o=>
  cases o with
  |map es=>simp only[sLd,h];rfl
  |lp d=>simp only[sLd,h];rfl
  |row cs v f=>
   simp only[sLd,h,ldRow]
   by_cases hc:v=ver
   .subst hc;simp
   .rw[if_neg hc,show Nat.beq v ver=false from by rw[x19y];intro x;exact hc (x19c x)];rfl
theorem xz8(g:Bool)(z ver off:Nat)(cs:List AV)(v:Nat)(f:Bool):ldRow g z ver off (some (.row cs v f))=bif Nat.beq v ver then rd g z (cs.drop off)else none:=_root_.id rfl
theorem rd_t(z:Nat)(cs:List AV):rd true z cs=bif decide (z<=cs.length)then some (.agg (cs.take z))else none:=by
 unfold rd
 by_cases h:z<=cs.length<;>simp[h]
theorem rd_f(z:Nat)(a:AV)(cs:List AV):rd false z (a::cs)=some a:=_root_.id rfl
theorem rd_1(a:AV)(cs:List AV):rd true 1 (a::cs)=some (.agg [a]):=by rw[rd_t,x19e,x19h (by omega)];rfl
theorem rd_2(a b:AV)(cs:List AV):rd true 2 (a::b::cs)=some (.agg [a,b]):=by rw[rd_t];simp only[x19e];rw[x19h (by omega)];rfl
theorem rd_3(a b c:AV)(cs:List AV):rd true 3 (a::b::c::cs)=some (.agg [a,b,c]):=by rw[rd_t];simp only[x19e];rw[x19h (by omega)];rfl
theorem rd_4(a b c d:AV)(cs:List AV):rd true 4 (a::b::c::d::cs)=some (.agg [a,b,c,d]):=by rw[rd_t];simp only[x19e];rw[x19h (by omega)];rfl
theorem stRow_4(ver:Nat)(a b c d a' b' c' d':AV):stRow 4 ver 0 (.agg [a',b',c',d']) (some (.row [a,b,c,d] ver false))=bif[a',b',c',d'].all AV.one then some (.row [a',b',c',d'] ver false)else none:=by
 rw[xz7]
 simp[xon]
theorem splice_eq(cs:List AV)(off:Nat)(vs:List AV):xon cs off vs=cs.take off++(vs++cs.drop (off+vs.length)):=_root_.id rfl
attribute [simp high] rd_1 rd_2 rd_3 rd_4 stRow_4
attribute [simp] xx1 xz8 xz7 rd_t rd_f splice_eq Mem.get_set Mem.get_new xnx
attribute [simp ↓] sSt_ptr xx0
def intE(x:Int):List AV:=[I x]
theorem xtk(x:Int):(intE x).length=1:=_root_.id rfl
theorem Sl.ixI(hz:∀x,(enc x).length=z)(h:Sl enc a l){k:Int}(h0:0<=k)(hk:k<l.length):sIx z a (I k)=some (.plit ((l.drop k.toNat).flatMap enc)):=by
 have:=h.ix hz (k:=k.toNat) (by omega)
 rwa[x1c8 h0]at this
def at0(l:List Int)(k:Nat):Int:=l.getD k 0
theorem xqh{l:List Int}{k:Nat}(h:k<l.length):at0 l k=l[k]:=by
 unfold at0;rw[x1a7,x19g h];rfl
theorem mkM_0(l:List AV):mkM 0 l=bif l.all clean then 2 else 0:=by
 unfold mkM
 cases h:l.all clean<;>simp[h]
theorem mkM_1(l:List AV):mkM 1 l=bif l.all clean then 2 else 0:=by
 unfold mkM
 cases h:l.all clean<;>simp[h]
@[simp] theorem mkM_3(l:List AV):mkM 3 l=1:=_root_.id rfl
@[simp] theorem mkM_4(l:List AV):mkM 4 l=1:=_root_.id rfl
@[simp] theorem clean_sc(v:Value):clean (.sc v)=true:=_root_.id rfl
@[simp] theorem clean_agg(l:List AV):clean (.agg l)=l.all clean1:=_root_.id rfl
@[simp] theorem clean_slit(l:List AV)(n:Nat)(x:Bool):clean (.slit l n x)=true:=_root_.id rfl
@[simp] theorem clean1_sc(v:Value):clean1 (.sc v)=true:=_root_.id rfl
@[simp] theorem clean1_slit(l:List AV)(n:Nat)(x:Bool):clean1 (.slit l n x)=true:=_root_.id rfl
@[simp] theorem ble_2:Nat.ble 1 2=true:=_root_.id rfl
@[simp] theorem ble_1:Nat.ble 1 1=true:=_root_.id rfl
@[simp] theorem cAp_R2(a:AV):cAp none (tR a) 2=true:=by
  unfold tR;split<;>rfl
@[simp] theorem cAp_R1(a:AV):cAp none (tR a) 1=true:=by
  unfold tR;split<;>rfl
attribute [simp] mkM_0 mkM_1
theorem x12m{call:xnv}{f:FuncId}{l:List AV}{m m':Mem}{r r':AV}(hl:l.all still=true)(h:call [] f l mem0=some (r,m'))(hr:frz m'.get deep r=some r'):xnu call f l m=some (r',m):=by
 unfold xnu
 rw[xz6 _ hl]
 simp only[h,hr]
 rw[x12k _ hl]
 rfl
theorem xug{objs:Id->Option Ob}{id:Id}{cs:List AV}{ver off n z k:Nat}{f x:Bool}(h:objs id=some (.row cs ver f))(hl:off+n*z<=cs.length)(hs:((cs.drop off).take (n*z)).all still1=true) :
 frz objs (k+2) (.sref id ver off n z x)=some (.slit ((cs.drop off).take (n*z)) n false):=by
 have h2:((cs.drop off).take (n*z)).mapM (frz objs (k+1))=some ((cs.drop off).take (n*z)):=xuf λa ha=>xue objs k (x197.mp hs a ha)
 simp only[frz,h]
 rw[if_pos ⟨trivial,hl⟩]
 show((((cs.drop off).take (n*z)).mapM (frz objs (k+1))).map λl=>AV.slit l n false)=_
 rw[h2];rfl
theorem mkLit_nil{z:List AV}{size:Nat}{id:Id}{m:Mem}{k:AV->Mem->Option R}:xp1 z [] 0 size id m k=k (.slit [] 0 true) m:=by
 simp[xp1,xq9,xp4]
theorem xuh(he:∀x,(enc x).all still1=true):∀l:List α,(l.flatMap enc).all still1=true
 |[]=>rfl
 |x::l=>by rw[x19b,List.all_append,he,xuh he l];rfl
theorem x12n(x:Int):(intE x).all still1=true:=rfl
attribute [simp ↓] mkLit_nil
theorem xvi{z:AV}{x:AV}{id:Id}{m:Mem}{k:AV->Mem->Option R}(h1:x.cells=[x])(h2:x.one=true)(h3:clean1 x=true):xp1 [z] [(0,1,x)] 1 1 id m k=k (.slit [x] 1 true) m:=by
 simp[xp1,xq9,xp4,h1,h2,h3,x1cw]
@[simp ↓] theorem mkLit_I{z:AV}{x:Int}{id:Id}{m:Mem}{k:AV->Mem->Option R}:xp1 [z] [(0,1,I x)] 1 1 id m k=k (.slit [I x] 1 true) m:=xvi rfl rfl rfl
def Gr{α:Type}(z:Nat)(enc:α->List AV)(u t:Nat)(m:Mem)(a:AV)(l:List α):Prop:=
 (a=nilS/\l=[])\/∃s ver,a=.sref (u,s,t) ver 0 l.length z true/\m.get (u,s,t)=some (.row (l.flatMap enc) ver false)
theorem Gr.nil{u t:Nat}{m:Mem}:Gr z enc u t m nilS []:=Or.inl ⟨rfl,rfl⟩
theorem Gr.frame{u t:Nat}{m m':Mem}(h:Gr z enc u t m a l)(hm:∀s,m'.get (u,s,t)=m.get (u,s,t)):Gr z enc u t m' a l:=by
 rcases h with h|⟨s,ver,h1,h2⟩
 .exact Or.inl h
 .exact Or.inr ⟨s,ver,h1,by rw[hm];exact h2⟩
theorem Gr.app(hz:∀x,(enc x).length=z)(h0:0<z){u t s0 bytes:Nat}{m:Mem}(hr:xol (l.length+1) bytes)(h:Gr z enc u t m a l)(x:α) :
 ∃a' m',(∀{R:Type} (k:AV->Mem->Option R),sApp z bytes (u,s0,t) (some (enc x,1)) a m k=k a' m')/\Gr z enc u t m' a' (l++[x])/\m'.next=m.next/\∀j:Id,j.2.2≠t->m'.get j=m.get j:=by
 rcases h with ⟨rfl,rfl⟩|⟨s,ver,rfl,hg⟩
 .refine⟨.sref (u,s0,t) 0 0 1 z true,m.new (u,s0,t) (.row (enc x) 0 false),λk=>?_,Or.inr ⟨s0,0,rfl,by simp⟩,rfl,λj hj=>?_⟩
  .simp only[sApp]
   rw[if_neg (by omega),if_pos (by simpa using hr)]
  .rw[Mem.get_new,if_neg (by rintro rfl;exact hj rfl)]
 .have hl:=xrr hz l
  refine⟨.sref (u,s,t) (ver+1) 0 (l.length+1) z true,m.set (u,s,t) (.row (l.flatMap enc++enc x) (ver+1) false),λk=>?_,Or.inr ⟨s,ver+1,by simp,by simp⟩,rfl,λj hj=>?_⟩
  .simp only[sApp,hg]
   rw[if_pos ⟨trivial,trivial,by omega,hr⟩,if_neg (by omega),if_neg (by rw[hl,x1ak];omega),x1a6,x19p (by omega)]
  .rw[Mem.get_set,if_neg (by rintro rfl;exact hj rfl)]
theorem Gr.frz(hz:∀x,(enc x).length=z)(hs:∀x,(enc x).all still1=true){u t:Nat}{m:Mem}(h:Gr z enc u t m a l):∃a',Sl enc a' l/\frz m.get deep a=some a':=by
 rcases h with ⟨rfl,rfl⟩|⟨s,ver,rfl,hg⟩
 .exact⟨nilS,Or.inl ⟨rfl,rfl⟩,rfl⟩
 .have hl:=xrr hz l
  refine⟨.slit (l.flatMap enc) l.length false,Sl.lit l false,?_⟩
  have:=xug (objs:=m.get) (id:=(u,s,t)) (cs:=l.flatMap enc) (ver:=ver) (off:=0) (n:=l.length) (z:=z) (k:=4) (f:=false) (x:=true) hg (by omega) (by
   rw[x1a6,x19p (by omega)];exact xuh hs l)
  rw[x1a6,x19p (by omega)]at this
  exact this
theorem call0_any{call:xnv}{f:FuncId}{l l':List AV}{m m':Mem}{r r':AV}(hl:l.mapM (Go.Ix.frz m.get deep)=some l')(h:call [] f l' mem0=some (r,m'))(hr:Go.Ix.frz m'.get deep r=some r'):∃m2:Mem,m2.next=m.next/\xnu call f l m=some (r',m2):=by
 refine⟨⟨xrp (l.flatMap (xo2 m.get deep)) m.hp,m.next⟩,rfl,?_⟩
 unfold xnu
 rw[hl]
 simp only[h,hr]
 rfl
theorem frz_tup{objs:Id->Option Ob}{l:List AV}(h:l.all still=true):Go.Ix.frz objs deep (.tup l)=some (.tup l):=by
 have h2:l.mapM (Go.Ix.frz objs 5)=some l:=xuf λa ha=>xsb _ 3 (x197.mp h a ha)
 show(l.mapM (Go.Ix.frz objs 5)).map AV.tup=_
 rw[h2];rfl
theorem xo8:NN=18446744073709551616:=rfl
theorem xph{op:BinOp}{t:TypeId}{x y:Operand}{a b r:AV}(h:bin0 P op t x y a b=some r):sBin P op t x y a b=some r:=by unfold sBin;rw[h]
structure Edge where
 fr:Int
 to:Int
 jump:Int
 wt:Int
def Edge.c(e:Edge):List AV:=[I e.fr,I e.to,I e.jump,I e.wt]
theorem Edge.len(e:Edge):e.c.length=4:=rfl
def wi(a b c:Int):Bool:=decide (b<=a/\a<=c)
theorem wi_t{a b c:Int}(h:wi a b c=true):b<=a/\a<=c:=x1b8 h
theorem xpo(d:Nat)(a b c:Int)(m:Mem):xnu (xnt (d+1)) xf [I a,I b,I c] m=some (B (wi a b c),m):=by
 refine call0 rfl (m':=⟨[],1⟩) ?_ rfl
 rw[xj2]
 unfold xd8 x8x wi
 by_cases h:b<=a<;>by_cases h2:a<=c<;>simp[h,h2,mem0]
theorem xx2:Tryz.prog.underlying xg=some (.slice xo4):=by kernel_rfl
theorem xx3:xra=[I 0]:=by kernel_rfl
theorem xvj(d:Nat)(a:Int)(m:Mem)(h1:-9223372036854775808<a)(h2:a<=9223372036854775807):xnu (xnt (d+1)) xy [I a] m=some (I (a.natAbs:Int),m):=by
 refine call0 rfl (m':=⟨[],1⟩) ?_ rfl
 rw[xjm]
 unfold xds xat
 simp(disch:=omega) [mem0,xnx]
 split<;>omega
abbrev Ints(a:AV)(l:List Int):Prop:=Sl intE a l
def TurnsIn(t:List Int):Prop:=∀x∈t,-1000000<=x/\x<=1000000
theorem TurnsIn.get{t:List Int}(h:TurnsIn t)(k:Nat):-1000000<=at0 t k/\at0 t k<=1000000:=by
 unfold at0
 rw[x1a7]
 cases hk:t[k]? with
 |none=>simp
 |some x=>simpa using h x (x1a4 hk)
def RetF(T:AV->Prop)(r:O2):Prop:=∃a m' a',r=some (a,m')/\frz m'.get deep a=some a'/\T a'
theorem RetF.st{T:AV->Prop}{a:AV}{m:Mem}(h:still a=true)(ht:T a):RetF T (some (a,m)):=⟨a,m,a,rfl,xsb _ 4 h,ht⟩
theorem RetF.tup{T:AV->Prop}{l:List AV}{m:Mem}(h:l.all still=true)(ht:T (.tup l)):RetF T (some (.tup l,m)):=⟨_,m,_,rfl,frz_tup h,ht⟩
theorem RetF.mk{T:AV->Prop}{a a':AV}{m:Mem}(h:frz m.get deep a=some a')(ht:T a'):RetF T (some (a,m)):=⟨a,m,a',rfl,h,ht⟩
theorem callF{T:AV->Prop}{call:xnv}{f:FuncId}{l:List AV}(hl:l.all still=true)(h:RetF T (call [] f l mem0))(m:Mem):∃a,T a/\xnu call f l m=some (a,m):=by
 obtain⟨a,m',a',h1,h2,h3⟩:=h
 exact⟨a',h3,x12m hl h1 h2⟩
theorem xo0{v:AV}{call:xnv}{f:FuncId}{l:List AV}(hl:l.all still=true)(h:RetF (λa=>a=v) (call [] f l mem0))(m:Mem):xnu call f l m=some (v,m):=by
 obtain⟨a,h1,h2⟩:=callF hl h m
 rw[h2,h1]
theorem xx4{objs:Id->Option Ob}{a b a' b':AV}(ha:frz objs 5 a=some a')(hb:frz objs 5 b=some b'):frz objs deep (.tup [a,b])=some (.tup [a',b']):=by
 show([a,b].mapM (frz objs 5)).map AV.tup=_
 simp only[x1a9,x1b4,ha,hb]
 rfl
theorem frz_tup3{objs:Id->Option Ob}{a b c a' b' c':AV}(ha:frz objs 5 a=some a')(hb:frz objs 5 b=some b')(hc:frz objs 5 c=some c'):frz objs deep (.tup [a,b,c])=some (.tup [a',b',c']):=by
 show([a,b,c].mapM (frz objs 5)).map AV.tup=_
 simp only[x1a9,x1b4,ha,hb,hc]
 rfl
theorem frz_I{objs:Id->Option Ob}{k:Nat}{x:Int}:frz objs (k+1) (I x)=some (I x):=rfl
theorem Gr.len{α:Type}{z:Nat}{enc:α->List AV}{l:List α}{a:AV}{u t:Nat}{m:Mem}{y e:TypeId}(ht:Tryz.prog.underlying y=some (.slice e))(h:Gr z enc u t m a l):sLen Tryz.prog y a=some (I l.length):=by
 rcases h with ⟨rfl,rfl⟩|⟨s,ver,rfl,hg⟩
 .exact xwv ht
 .rfl
abbrev T(s:ByteArray):AV:=.sc (.string s)
@[simp] theorem sLenS_T(s:ByteArray):sLenS (T s)=some (I s.size):=rfl
end Go.Ix
