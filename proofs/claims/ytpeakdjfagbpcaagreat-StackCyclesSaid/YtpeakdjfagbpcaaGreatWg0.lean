import Derived.Test.YtpeakdjfagbpcaaGreatFxCall
import Derived.Test.YtpeakdjfagbpcaaGreatFxOps
import Derived.Laws.Strings
set_option linter.unusedSimpArgs false
namespace Go.Ix
open Go.Proofs
variable{R:Type}{P:Program}{m:Mem}
@[simp] theorem sAdd_I(x y:Int):sAdd (I x) (I y)=some (I (w64 (x+y))):=_root_.id rfl
@[simp] theorem sSub_I(x y:Int):sSub (I x) (I y)=some (I (w64 (x-y))):=_root_.id rfl
@[simp] theorem sMul_I(x y:Int):sMul (I x) (I y)=some (I (w64 (x*y))):=_root_.id rfl
@[simp] theorem xwd(x y:Int):sLt (I x) (I y)=some (B (decide (x<y))):=_root_.id rfl
@[simp] theorem sLe_I(x y:Int):sLe (I x) (I y)=some (B (decide (x<=y))):=_root_.id rfl
@[simp] theorem sGt_I(x y:Int):sGt (I x) (I y)=some (B (decide (y<x))):=_root_.id rfl
@[simp] theorem sGe_I(x y:Int):sGe (I x) (I y)=some (B (decide (y<=x))):=_root_.id rfl
@[simp] theorem sEq_I(x y:Int):sEq (I x) (I y)=some (B (decide (x=y))):=_root_.id rfl
@[simp] theorem sNe_I(x y:Int):sNe (I x) (I y)=some (B (!decide (x=y))):=_root_.id rfl
@[simp] theorem sNeg_I(x:Int):sNeg (I x)=some (I (w64 (0-x))):=_root_.id rfl
@[simp] theorem sNot_B(b:Bool):sNot (B b)=some (B (!b)):=_root_.id rfl
@[simp] theorem sMin_I(x y:Int):sMin (I x) (I y)=some (I (if y<x then y else x)):=_root_.id rfl
@[simp] theorem sMax_I(x y:Int):sMax (I x) (I y)=some (I (if y > x then y else x)):=_root_.id rfl
@[simp] theorem sPick_B(c:Bool)(a b:AV):xv3 (B c) a b=some (bif c then a else b):=_root_.id rfl
@[simp] theorem xw4(a b:Option R):xuw (B true) a b=a:=_root_.id rfl
@[simp] theorem x13f(a b:Option R):xuw (B false) a b=b:=_root_.id rfl
@[simp] theorem sW_t(b:Bool):sW (B b) true=b:=by cases b<;>rfl
@[simp] theorem sW_f(b:Bool):sW (B b) false=!b:=by cases b<;>rfl
@[simp] theorem sW_U(w:Bool):sW U w=false:=_root_.id rfl
@[simp] theorem sExt_tup(l:List AV)(i:Nat):sExt (.tup l) i=l[i]?:=_root_.id rfl
@[simp] theorem cells_I(x:Int):(I x).cells=[I x]:=_root_.id rfl
@[simp] theorem cells_B(x:Bool):(B x).cells=[B x]:=_root_.id rfl
@[simp] theorem x103(l:List AV):(AV.agg l).cells=l:=_root_.id rfl
@[simp] theorem x15y(l:List AV)(n:Nat)(x:Bool):(AV.slit l n x).cells=[.slit l n x]:=_root_.id rfl
@[simp] theorem cells_sref(id:Id)(ver off n z:Nat)(f:Bool):(AV.sref id ver off n z f).cells=[.sref id ver off n z f]:=_root_.id rfl
@[simp] theorem cells_nilS:(nilS).cells=[nilS]:=_root_.id rfl
@[simp] theorem one_I(x:Int):(I x).one=true:=_root_.id rfl
@[simp] theorem one_B(x:Bool):(B x).one=true:=_root_.id rfl
@[simp] theorem x15z(l:List AV)(n:Nat)(x:Bool):(AV.slit l n x).one=true:=_root_.id rfl
@[simp] theorem one_sref(id:Id)(ver off n z:Nat)(f:Bool):(AV.sref id ver off n z f).one=true:=_root_.id rfl
@[simp] theorem one_nilS:(nilS).one=true:=_root_.id rfl
@[simp] theorem one_clo(f:FuncId)(l:List AV):(AV.clo f l).one=true:=_root_.id rfl
def still1:AV->Bool
 | .sc _ | .slit .. | .plit _=>true
 |_=>false
def still:AV->Bool
 | .sc _ | .slit .. | .plit _=>true
 | .agg l=>l.all still1
 | .clo _ l=>l.all still1
 |_=>false
@[simp] theorem still1_sc(v:Value):still1 (.sc v)=true:=_root_.id rfl
@[simp] theorem still1_slit(l:List AV)(n:Nat)(x:Bool):still1 (.slit l n x)=true:=_root_.id rfl
@[simp] theorem still_sc(v:Value):still (.sc v)=true:=_root_.id rfl
@[simp] theorem still_slit(l:List AV)(n:Nat)(x:Bool):still (.slit l n x)=true:=_root_.id rfl
@[simp] theorem still_agg(l:List AV):still (.agg l)=l.all still1:=_root_.id rfl
@[simp] theorem still_clo(f:FuncId)(l:List AV):still (.clo f l)=l.all still1:=_root_.id rfl
theorem x104{a:AV}(objs:Id->Option Ob)(k:Nat)(h:still1 a=true):frz objs (k+1) a=some a:=by
 cases a<;>simp_all [frz,still1]
theorem xyi{f:AV->Option AV}:∀{l:List AV},(∀a∈l,f a=some a)->l.mapM f=some l
 |[],_=>rfl
 |a::l,h=>by
  rw[List.mapM_cons,h a (List.mem_cons_self ..),xyi fun b hb=>h b (List.mem_cons_of_mem _ hb)]
  rfl
theorem xwe{a:AV}(objs:Id->Option Ob)(k:Nat)(h:still a=true):frz objs (k+2) a=some a:=by
 cases a with
 |agg l=>
  simp only[still,List.all_eq_true]at h
  have:l.mapM (frz objs (k+1))=some l:=xyi fun b hb=>x104 objs k (h b hb)
  show(l.mapM (frz objs (k+1))).map AV.agg=_
  rw[this];rfl
 |clo f l=>
  simp only[still,List.all_eq_true]at h
  have:l.mapM (frz objs (k+1))=some l:=xyi fun b hb=>x104 objs k (h b hb)
  show(l.mapM (frz objs (k+1))).map (AV.clo f)=_
  rw[this];rfl
 |_=>first|(exact x104 objs (k+1) rfl)|(simp[still]at h)
theorem x13g{a:AV}(objs:Id->Option Ob)(k:Nat)(h:still1 a=true):xuz objs (k+1) a=[]:=by
 cases a<;>simp_all [xuz,still1]
theorem x18k{a:AV}(objs:Id->Option Ob)(k:Nat)(h:still a=true):xuz objs (k+2) a=[]:=by
 cases a with
 |agg l=>
  simp only[still,List.all_eq_true]at h
  show l.flatMap (xuz objs (k+1))=[]
  rw[List.flatMap_eq_nil_iff]
  exact fun b hb=>x13g objs k (h b hb)
 |clo f l=>
  simp only[still,List.all_eq_true]at h
  show l.flatMap (xuz objs (k+1))=[]
  rw[List.flatMap_eq_nil_iff]
  exact fun b hb=>x13g objs k (h b hb)
 |_=>first|(exact x13g objs (k+1) rfl)|(simp[still]at h)
theorem x13h{l:List AV}(objs:Id->Option Ob)(h:l.all still=true):l.mapM (frz objs deep)=some l:=
 xyi fun a ha=>xwe objs 4 (List.all_eq_true.mp h a ha)
theorem x13i{l:List AV}(objs:Id->Option Ob)(h:l.all still=true):l.flatMap (xuz objs deep)=[]:=by
 rw[List.flatMap_eq_nil_iff]
 exact fun a ha=>x18k objs 4 (List.all_eq_true.mp h a ha)
theorem call0{call:xut}{f:FuncId}{l:List AV}{m m':Mem}{r:AV}(hl:l.all still=true)(h:call [] f l mem0=some (r,m'))(hr:still r=true):xuv call f l m=some (r,m):=by
 unfold xuv
 rw[x13h _ hl]
 simp only[h]
 rw[show frz m'.get deep r=some r from xwe _ 4 hr,x13i _ hl]
 rfl
theorem call0_tup{call:xut}{f:FuncId}{l:List AV}{m m':Mem}{r:List AV}(hl:l.all still=true)(h:call [] f l mem0=some (.tup r,m'))(hr:r.all still=true):xuv call f l m=some (.tup r,m):=by
 unfold xuv
 rw[x13h _ hl]
 simp only[h]
 have:frz m'.get deep (.tup r)=some (.tup r):=by
  have h2:r.mapM (frz m'.get 5)=some r:=xyi fun a ha=>xwe _ 3 (List.all_eq_true.mp hr a ha)
  show(r.mapM (frz m'.get 5)).map AV.tup=_
  rw[h2];rfl
 rw[this,x13i _ hl]
 rfl
def Ans(call:xut)(f:FuncId)(l:List AV)(r:AV):Prop:=∃m',call [] f l mem0=some (r,m')
theorem Ans.call0{call:xut}{f:FuncId}{l:List AV}{m:Mem}{r:AV}(h:Ans call f l r)(hl:l.all still=true)(hr:still r=true):xuv call f l m=some (r,m):=
 let⟨_,h⟩:=h;Go.Ix.call0 hl h hr
theorem Ans.call0_tup{call:xut}{f:FuncId}{l:List AV}{m:Mem}{r:List AV}(h:Ans call f l (.tup r))(hl:l.all still=true)(hr:r.all still=true):xuv call f l m=some (.tup r,m):=
 let⟨_,h⟩:=h;Go.Ix.call0_tup hl h hr
def Sl{α:Type}(enc:α->List AV)(a:AV)(l:List α):Prop:=(a=nilS/\l=[])\/∃x,a=.slit (l.flatMap enc) l.length x
variable{α:Type}{enc:α->List AV}{z:Nat}{a:AV}{l:List α}
theorem xwp(hz:∀x,(enc x).length=z):∀l:List α,(l.flatMap enc).length=l.length*z
 |[]=>by simp
 |x::l=>by simp only[List.flatMap_cons,List.length_append,hz,xwp hz l,List.length_cons,Nat.succ_mul];omega
theorem x13j(hz:∀x,(enc x).length=z):∀(l:List α) (k:Nat),(l.flatMap enc).drop (k*z)=(l.drop k).flatMap enc
 |l,0=>by simp
 |[],k+1=>by simp
 |x::l,k+1=>by
  rw[List.flatMap_cons,Nat.succ_mul,List.drop_append,List.drop_of_length_le (by rw[hz];omega),List.nil_append,hz,Nat.add_sub_cancel,x13j hz l k,List.drop_succ_cons]
theorem xvs{l:List α}{k:Nat}(h:k<l.length):l.drop k=l[k]::l.drop (k+1):=List.drop_eq_getElem_cons h
theorem xxq{l r:List α}{x:α}{k:Nat}(h:l.drop k=x::r):∃hk:k<l.length,l[k]=x/\l.drop (k+1)=r:=by
 have hk:k<l.length:=by
  rcases Nat.lt_or_ge k l.length with h'|h'
  .exact h'
  .rw[List.drop_of_length_le h']at h;cases h
 rw[xvs hk]at h
 injection h with he hd
 exact⟨hk,he,hd⟩
theorem Sl.still1(h:Sl enc a l):still1 a=true:=by
 rcases h with ⟨rfl,_⟩|⟨x,rfl⟩<;>rfl
theorem Sl.still(h:Sl enc a l):still a=true:=by
 rcases h with ⟨rfl,_⟩|⟨x,rfl⟩<;>rfl
theorem Sl.clean(h:Sl enc a l):clean a=true:=by
 rcases h with ⟨rfl,_⟩|⟨x,rfl⟩<;>rfl
theorem Sl.clean1(h:Sl enc a l):clean1 a=true:=by
 rcases h with ⟨rfl,_⟩|⟨x,rfl⟩<;>rfl
theorem Sl.cells(h:Sl enc a l):a.cells=[a]:=by
 rcases h with ⟨rfl,_⟩|⟨x,rfl⟩<;>rfl
theorem Sl.one(h:Sl enc a l):a.one=true:=by
 rcases h with ⟨rfl,_⟩|⟨x,rfl⟩<;>rfl
theorem Sl.tX(h:Sl enc a l):tX a=some []:=by
 rcases h with ⟨rfl,_⟩|⟨x,rfl⟩<;>rfl
theorem Sl.lit(l:List α)(x:Bool):Sl enc (.slit (l.flatMap enc) l.length x) l:=Or.inr ⟨x,rfl⟩
theorem Sl.elems(hz:∀x,(enc x).length=z)(h:Sl enc a l)(objs:Id->Option Ob):elems objs z a=some (l.flatMap enc,l.length):=by
 rcases h with ⟨rfl,rfl⟩|⟨x,rfl⟩
 .rfl
 .have h1:=xwp hz l
  simp[Ix.elems,h1,List.take_of_length_le]
theorem x10x{t e:TypeId}(ht:P.underlying t=some (.slice e)):sLen P t nilS=some (I 0):=by
 have:xux P (Builtin.len_ #[t] 0 #[Value.slice none 0 0])=some (.int .i64 0):=by
  simp[Builtin.len_,underlying,program,Bind.bind,Sem.bind,xux,Pure.pure,ht,goInt]
 show(xux P (Builtin.len_ #[t] 0 #[Value.slice none 0 0])).map xvg=_
 rw[this];rfl
theorem Sl.len{t e:TypeId}(ht:P.underlying t=some (.slice e))(h:Sl enc a l):sLen P t a=some (I l.length):=by
 rcases h with ⟨rfl,rfl⟩|⟨x,rfl⟩
 .exact x10x ht
 .rfl
theorem Sl.ix(hz:∀x,(enc x).length=z)(h:Sl enc a l){k:Nat}(hk:k<l.length):sIx z a (I k)=some (.plit ((l.drop k).flatMap enc)):=by
 rcases h with ⟨rfl,rfl⟩|⟨x,rfl⟩
 .simp at hk
 .have:(0:Int)<=(k:Int)/\(k:Int)<(l.length:Int):=by omega
  simp[sIx,asI,x13j hz,hk]
theorem xw8{m:Mem}(hz:∀x,(enc x).length=z)(h0:0<z){k:Nat}(hk:k<l.length):sLd true z (.plit ((l.drop k).flatMap enc)) m=some (.agg (enc l[k])):=by
 have h1:=hz l[k]
 rw[xvs hk,List.flatMap_cons]
 simp only[sLd]
 have hne:(enc l[k]++(l.drop (k+1)).flatMap enc).isEmpty=false:=by
  cases he:enc l[k]with
  |nil=>rw[he]at h1;simp at h1;omega
  |cons=>rfl
 rw[hne]
 simp only[Bool.false_eq_true,if_false,rd]
 rw[if_pos trivial,if_pos (by rw[List.length_append];omega),List.take_append_of_le_length (by omega),List.take_of_length_le (by omega)]
@[simp] theorem x11r(off:Nat)(id:Id)(ver o:Nat):sFA off (.ptr id ver o)=some (.ptr id ver (o+off)):=_root_.id rfl
@[simp] theorem x160(off:Nat)(cs:List AV):sFA off (.plit cs)=some (.plit (cs.drop off)):=_root_.id rfl
@[simp] theorem ld_cons{m:Mem}(x:AV)(cs:List AV):sLd false 1 (.plit (x::cs)) m=some x:=_root_.id rfl
theorem ld_ptr{m:Mem}{id:Id}{g:Bool}{z off ver:Nat}{cs:List AV}{fz:Bool}(h:m.get id=some (.row cs ver fz)):sLd g z (.ptr id ver off) m=rd g z (cs.drop off):=by
 simp[sLd,h]
@[simp] theorem sLd_cons(g:Bool)(z:Nat)(x:AV)(cs:List AV)(m:Mem):sLd g z (.plit (x::cs)) m=rd g z (x::cs):=_root_.id rfl
theorem st_ptr{m:Mem}{id:Id}{z off ver:Nat}{cs:List AV}{x:AV}{k:Mem->Option R}(h:m.get id=some (.row cs ver false))(h1:x.cells.length=z)(h2:off+z<=cs.length)(h3:x.cells.all AV.one=true) :
 sSt z (.ptr id ver off) x m k=k (m.set id (.row (xvc cs off x.cells) ver false)):=by
 simp only[sSt,h]
 rw[if_pos ⟨trivial,h1,h2,h3⟩]
@[simp] theorem Mem.next_set(m:Mem)(i:Id)(o:Ob):(m.set i o).next=m.next:=_root_.id rfl
@[simp] theorem Mem.next_new(m:Mem)(i:Id)(o:Ob):(m.new i o).next=m.next:=_root_.id rfl
theorem bind_cg{α β:Type}{x y:Option α}{f:α->Option β}(h:x=y):x.bind f=y.bind f:=by rw[h]
theorem cond_cg{α:Type}{x y:Bool}{a b:α}(h:x=y):cond x a b=cond y a b:=by rw[h]
theorem sCond_cg{x y:AV}{a b:Option R}(h:x=y):xuw x a b=xuw y a b:=by rw[h]
attribute [congr] bind_cg cond_cg sCond_cg
theorem xv4{α β:Type}(a:α)(f:α->Option β):(some a).bind f=f a:=_root_.id rfl
theorem xwb{α:Type}(a b:α):cond true a b=a:=_root_.id rfl
theorem cond_f{α:Type}(a b:α):cond false a b=b:=_root_.id rfl
attribute [simp high] xv4 xwb cond_f
attribute [simp ↓ high] xw4 x13f xv4 xwb cond_f
@[simp ↓] theorem x11s(cs:List AV)(id:Id)(m:Mem)(k:AV->Mem->Option R):xvw cs id m k=k (.ptr id 0 0) (m.new id (.row cs 0 false)):=_root_.id rfl
def stRow(z ver off:Nat)(x:AV):Option Ob->Option Ob
 |some (.row cs v false)=>bif decide (v=ver/\x.cells.length=z/\off+z<=cs.length/\(x.cells.all AV.one)=true)then some (.row (xvc cs off x.cells) v false)else none
 |_=>none
theorem xz6(z:Nat)(id:Id)(ver off:Nat)(x:AV)(m:Mem)(k:Mem->Option R):sSt z (.ptr id ver off) x m k=(stRow z ver off x (m.get id)).bind fun o=>k (m.set id o):=by
 cases h:m.get id with
 |none=>simp only[sSt,h];rfl
 |some o=>
  cases o with
  |map es=>simp only[sSt,h];rfl
  |lp d=>simp only[sSt,h];rfl
  |row cs v f=>
   cases f with
   |true=>simp only[sSt,h];rfl
   |false=>
    simp only[sSt,h,stRow]
    by_cases hc:v=ver/\x.cells.length=z/\off+z<=cs.length/\(x.cells.all AV.one)=true
    .rw[if_pos hc,decide_eq_true hc];rfl
    .rw[if_neg hc,decide_eq_false hc];rfl
theorem x10y(z ver off:Nat)(x:AV)(cs:List AV)(v:Nat):stRow z ver off x (some (.row cs v false))=bif decide (v=ver/\x.cells.length=z/\off+z<=cs.length/\(x.cells.all AV.one)=true)then some (.row (xvc cs off x.cells) v false)else none:=_root_.id rfl
theorem xz7(x:AV)(id:Id)(m:Mem)(k:AV->Mem->Option R):sBox x id m k=bif x.cells.all AV.one then k (.ptr id 0 0) (m.new id (.row x.cells 0 false))else none:=by
 unfold sBox
 split
 .rename_i e;rw[e];rfl
 .rename_i e;rw[Bool.not_eq_true]at e;rw[e];rfl
def x105(g:Bool)(z ver off:Nat):Option Ob->Option AV
 |some (.row cs v _)=>bif Nat.beq v ver then rd g z (cs.drop off)else none
 |_=>none
theorem xxd(g:Bool)(z:Nat)(id:Id)(ver off:Nat)(m:Mem):sLd g z (.ptr id ver off) m=x105 g z ver off (m.get id):=by
 cases h:m.get id with
 |none=>simp only[sLd,h];rfl
 |some o=>
  cases o with
  |map es=>simp only[sLd,h];rfl
  |lp d=>simp only[sLd,h];rfl
  |row cs v f=>
   simp only[sLd,h,x105]
   by_cases hc:v=ver
   .subst hc;simp
   .rw[if_neg hc,show Nat.beq v ver=false from by rw[Bool.eq_false_iff];intro x;exact hc (Nat.eq_of_beq_eq_true x)];rfl
theorem xz8(g:Bool)(z ver off:Nat)(cs:List AV)(v:Nat)(f:Bool):x105 g z ver off (some (.row cs v f))=bif Nat.beq v ver then rd g z (cs.drop off)else none:=_root_.id rfl
theorem rd_t(z:Nat)(cs:List AV):rd true z cs=bif decide (z<=cs.length)then some (.agg (cs.take z))else none:=by
 unfold rd
 by_cases h:z<=cs.length<;>simp[h]
theorem rd_f(z:Nat)(a:AV)(cs:List AV):rd false z (a::cs)=some a:=_root_.id rfl
theorem rd_1(a:AV)(cs:List AV):rd true 1 (a::cs)=some (.agg [a]):=by rw[rd_t,List.length_cons,decide_eq_true (by omega)];rfl
theorem rd_2(a b:AV)(cs:List AV):rd true 2 (a::b::cs)=some (.agg [a,b]):=by rw[rd_t];simp only[List.length_cons];rw[decide_eq_true (by omega)];rfl
theorem rd_3(a b c:AV)(cs:List AV):rd true 3 (a::b::c::cs)=some (.agg [a,b,c]):=by rw[rd_t];simp only[List.length_cons];rw[decide_eq_true (by omega)];rfl
theorem rd_4(a b c d:AV)(cs:List AV):rd true 4 (a::b::c::d::cs)=some (.agg [a,b,c,d]):=by rw[rd_t];simp only[List.length_cons];rw[decide_eq_true (by omega)];rfl
theorem stRow_4(ver:Nat)(a b c d a' b' c' d':AV):stRow 4 ver 0 (.agg [a',b',c',d']) (some (.row [a,b,c,d] ver false))=bif[a',b',c',d'].all AV.one then some (.row [a',b',c',d'] ver false)else none:=by
 rw[x10y]
 simp[xvc]
theorem splice_eq(cs:List AV)(off:Nat)(vs:List AV):xvc cs off vs=cs.take off++(vs++cs.drop (off+vs.length)):=_root_.id rfl
attribute [simp high] rd_1 rd_2 rd_3 rd_4 stRow_4
attribute [simp] xxd xz8 x10y rd_t rd_f splice_eq Mem.get_set Mem.get_new xv1
attribute [simp ↓] xz6 xz7
def intE(x:Int):List AV:=[I x]
theorem xvu(x:Int):(intE x).length=1:=_root_.id rfl
theorem Sl.ixI(hz:∀x,(enc x).length=z)(h:Sl enc a l){k:Int}(h0:0<=k)(hk:k<l.length):sIx z a (I k)=some (.plit ((l.drop k.toNat).flatMap enc)):=by
 have:=h.ix hz (k:=k.toNat) (by omega)
 rwa[Int.toNat_of_nonneg h0]at this
def at0(l:List Int)(k:Nat):Int:=l.getD k 0
theorem xva{l:List Int}{k:Nat}(h:k<l.length):at0 l k=l[k]:=by
 unfold at0;rw[List.getD_eq_getElem?_getD,List.getElem?_eq_getElem h];rfl
theorem xwf{m:Mem}{l:List Int}{k:Nat}(hk:k<l.length):sLd false 1 (.plit ((l.drop k).flatMap intE)) m=some (I (at0 l k)):=by
 rw[xvs hk,List.flatMap_cons,xva hk]
 rfl
theorem mkM_0(l:List AV):mkM 0 l=bif l.all clean then 2 else 0:=by
 unfold mkM
 cases h:l.all clean<;>simp[h]
theorem mkM_1(l:List AV):mkM 1 l=bif l.all clean then 2 else 0:=by
 unfold mkM
 cases h:l.all clean<;>simp[h]
@[simp] theorem mkM_3(l:List AV):mkM 3 l=1:=_root_.id rfl
@[simp] theorem mkM_4(l:List AV):mkM 4 l=1:=_root_.id rfl
@[simp] theorem clean_sc(v:Value):clean (.sc v)=true:=_root_.id rfl
@[simp] theorem clean_agg(l:List AV):clean (.agg l)=l.all clean1:=_root_.id rfl
@[simp] theorem clean_slit(l:List AV)(n:Nat)(x:Bool):clean (.slit l n x)=true:=_root_.id rfl
@[simp] theorem clean1_sc(v:Value):clean1 (.sc v)=true:=_root_.id rfl
@[simp] theorem x161(l:List AV)(n:Nat)(x:Bool):clean1 (.slit l n x)=true:=_root_.id rfl
@[simp] theorem ble_2:Nat.ble 1 2=true:=_root_.id rfl
@[simp] theorem ble_1:Nat.ble 1 1=true:=_root_.id rfl
@[simp] theorem cAp_R2(a:AV):cAp none (tR a) 2=true:=by
  unfold tR;split<;>rfl
@[simp] theorem cAp_R1(a:AV):cAp none (tR a) 1=true:=by
  unfold tR;split<;>rfl
attribute [simp] mkM_0 mkM_1
theorem x162{call:xut}{f:FuncId}{l:List AV}{m m':Mem}{r r':AV}(hl:l.all still=true)(h:call [] f l mem0=some (r,m'))(hr:frz m'.get deep r=some r'):xuv call f l m=some (r',m):=by
 unfold xuv
 rw[x13h _ hl]
 simp only[h,hr]
 rw[x13i _ hl]
 rfl
theorem xz9{objs:Id->Option Ob}{id:Id}{cs:List AV}{ver off n z k:Nat}{f x:Bool}(h:objs id=some (.row cs ver f))(hl:off+n*z<=cs.length)(hs:((cs.drop off).take (n*z)).all still1=true) :
 frz objs (k+2) (.sref id ver off n z x)=some (.slit ((cs.drop off).take (n*z)) n false):=by
 have h2:((cs.drop off).take (n*z)).mapM (frz objs (k+1))=some ((cs.drop off).take (n*z)):=xyi fun a ha=>x104 objs k (List.all_eq_true.mp hs a ha)
 simp only[frz,h]
 rw[if_pos ⟨trivial,hl⟩]
 show((((cs.drop off).take (n*z)).mapM (frz objs (k+1))).map fun l=>AV.slit l n false)=_
 rw[h2];rfl
theorem x11t{size bytes:Nat}{id:Id}{src:List AV}{q:Nat}{m:Mem}{k:AV->Mem->Option R}(h:xv2 q bytes) :
 sApp size bytes id (some (src,q)) (.slit [] 0 true) m k=bif decide (q=0)then k (.slit [] 0 true) m else k (.sref id 0 0 q size true) (m.new id (.row src 0 false)):=by
 simp only[sApp,Nat.zero_mul,Nat.zero_add,List.take_nil,List.nil_append]
 rw[if_pos (Nat.zero_le _)]
 by_cases hq:q=0
 .rw[if_pos hq,decide_eq_true hq];rfl
 .rw[if_neg hq,if_pos h,decide_eq_false hq];rfl
theorem mkLit_nil{z:List AV}{size:Nat}{id:Id}{m:Mem}{k:AV->Mem->Option R}:xvp z [] 0 size id m k=k (.slit [] 0 true) m:=by
 simp[xvp,xvx,xvq]
theorem xyj(he:∀x,(enc x).all still1=true):∀l:List α,(l.flatMap enc).all still1=true
 |[]=>rfl
 |x::l=>by rw[List.flatMap_cons,List.all_append,he,xyj he l];rfl
theorem x10z(x:Int):(intE x).all still1=true:=rfl
attribute [simp ↓] mkLit_nil
theorem x110{z:AV}{x:AV}{id:Id}{m:Mem}{k:AV->Mem->Option R}(h1:x.cells=[x])(h2:x.one=true)(h3:clean1 x=true):xvp [z] [(0,1,x)] 1 1 id m k=k (.slit [x] 1 true) m:=by
 simp[xvp,xvx,xvq,h1,h2,h3,List.range_succ]
@[simp ↓] theorem mkLit_I{z:AV}{x:Int}{id:Id}{m:Mem}{k:AV->Mem->Option R}:xvp [z] [(0,1,I x)] 1 1 id m k=k (.slit [I x] 1 true) m:=x110 rfl rfl rfl
def Gr{α:Type}(z:Nat)(enc:α->List AV)(u t:Nat)(m:Mem)(a:AV)(l:List α):Prop:=
 (a=nilS/\l=[])\/∃s ver,a=.sref (u,s,t) ver 0 l.length z true/\m.get (u,s,t)=some (.row (l.flatMap enc) ver false)
theorem Gr.nil{u t:Nat}{m:Mem}:Gr z enc u t m nilS []:=Or.inl ⟨rfl,rfl⟩
theorem Gr.frame{u t:Nat}{m m':Mem}(h:Gr z enc u t m a l)(hm:∀s,m'.get (u,s,t)=m.get (u,s,t)):Gr z enc u t m' a l:=by
 rcases h with h|⟨s,ver,h1,h2⟩
 .exact Or.inl h
 .exact Or.inr ⟨s,ver,h1,by rw[hm];exact h2⟩
theorem Gr.app(hz:∀x,(enc x).length=z)(h0:0<z){u t s0 bytes:Nat}{m:Mem}(hr:xv2 (l.length+1) bytes)(h:Gr z enc u t m a l)(x:α) :
 ∃a' m',(∀{R:Type} (k:AV->Mem->Option R),sApp z bytes (u,s0,t) (some (enc x,1)) a m k=k a' m')/\Gr z enc u t m' a' (l++[x])/\m'.next=m.next/\∀j:Id,j.2.2≠t->m'.get j=m.get j:=by
 rcases h with ⟨rfl,rfl⟩|⟨s,ver,rfl,hg⟩
 .refine⟨.sref (u,s0,t) 0 0 1 z true,m.new (u,s0,t) (.row (enc x) 0 false),fun k=>?_,Or.inr ⟨s0,0,rfl,by simp⟩,rfl,fun j hj=>?_⟩
  .simp only[sApp]
   rw[if_neg (by omega),if_pos (by simpa using hr)]
  .rw[Mem.get_new,if_neg (by rintro rfl;exact hj rfl)]
 .have hl:=xwp hz l
  refine⟨.sref (u,s,t) (ver+1) 0 (l.length+1) z true,m.set (u,s,t) (.row (l.flatMap enc++enc x) (ver+1) false),fun k=>?_,Or.inr ⟨s,ver+1,by simp,by simp⟩,rfl,fun j hj=>?_⟩
  .simp only[sApp,hg]
   rw[if_pos ⟨trivial,trivial,by omega,hr⟩,if_neg (by omega),if_neg (by rw[hl,Nat.succ_mul];omega),List.drop_zero,List.take_of_length_le (by omega)]
  .rw[Mem.get_set,if_neg (by rintro rfl;exact hj rfl)]
theorem Gr.frz(hz:∀x,(enc x).length=z)(hs:∀x,(enc x).all still1=true){u t:Nat}{m:Mem}(h:Gr z enc u t m a l):∃a',Sl enc a' l/\frz m.get deep a=some a':=by
 rcases h with ⟨rfl,rfl⟩|⟨s,ver,rfl,hg⟩
 .exact⟨nilS,Or.inl ⟨rfl,rfl⟩,rfl⟩
 .have hl:=xwp hz l
  refine⟨.slit (l.flatMap enc) l.length false,Sl.lit l false,?_⟩
  have:=xz9 (objs:=m.get) (id:=(u,s,t)) (cs:=l.flatMap enc) (ver:=ver) (off:=0) (n:=l.length) (z:=z) (k:=4) (f:=false) (x:=true) hg (by omega) (by
   rw[List.drop_zero,List.take_of_length_le (by omega)];exact xyj hs l)
  rw[List.drop_zero,List.take_of_length_le (by omega)]at this
  exact this
theorem frz_tup{objs:Id->Option Ob}{l:List AV}(h:l.all still=true):Go.Ix.frz objs deep (.tup l)=some (.tup l):=by
 have h2:l.mapM (Go.Ix.frz objs 5)=some l:=xyi fun a ha=>xwe _ 3 (List.all_eq_true.mp h a ha)
 show(l.mapM (Go.Ix.frz objs 5)).map AV.tup=_
 rw[h2];rfl
theorem xv8:NN=1048576:=rfl
structure Edge where
 fr:Int
 to:Int
 jump:Int
 wt:Int
def Edge.c(e:Edge):List AV:=[I e.fr,I e.to,I e.jump,I e.wt]
theorem Edge.len(e:Edge):e.c.length=4:=rfl
def wi(a b c:Int):Bool:=decide (b<=a/\a<=c)
theorem wi_t{a b c:Int}(h:wi a b c=true):b<=a/\a<=c:=of_decide_eq_true h
theorem x106(d:Nat)(a b c:Int)(m:Mem):xuv (xuu (d+1)) xu [I a,I b,I c] m=some (B (wi a b c),m):=by
 refine call0 rfl (m':=⟨[],1⟩) ?_ rfl
 rw[xgz]
 unfold x7d x8t wi
 by_cases h:b<=a<;>by_cases h2:a<=c<;>simp[h,h2,mem0]
theorem xw9:Tryz.prog.underlying x8=some (.slice xve):=by kernel_rfl
theorem z_ints:z_int=[I 0]:=by kernel_rfl
theorem w_Size(d:Nat)(a:Int)(m:Mem)(h1:-9223372036854775808<a)(h2:a<=9223372036854775807):xuv (xuu (d+1)) x38 [I a] m=some (I (a.natAbs:Int),m):=by
 refine call0 rfl (m':=⟨[],1⟩) ?_ rfl
 rw[xhf]
 unfold x7s x9a
 simp(disch:=omega) [mem0,xv1]
 split<;>omega
abbrev Ints(a:AV)(l:List Int):Prop:=Sl intE a l
def exI(t:List Int)(e:Edge):Int:=at0 t e.to.toNat-at0 t e.fr.toNat+e.jump
def TurnsIn(t:List Int):Prop:=∀x∈t,-1000000<=x/\x<=1000000
theorem TurnsIn.get{t:List Int}(h:TurnsIn t)(k:Nat):-1000000<=at0 t k/\at0 t k<=1000000:=by
 unfold at0
 rw[List.getD_eq_getElem?_getD]
 cases hk:t[k]? with
 |none=>simp
 |some x=>simpa using h x (List.mem_of_getElem? hk)
structure EdgeIn (n:Nat) (e:Edge):Prop where
 f0:0<=e.fr
 f1:e.fr<n
 t0:0<=e.to
 t1:e.to<n
 j0:-1000<=e.jump
 j1:e.jump<=1000
 w0:0<=e.wt
 w1:e.wt<=1000
theorem xvh{σ R:Type}{N:Nat}(X:Nat->Nat->σ->Mem->Nat->R)(Inv:Nat->σ->Mem->Prop)(Q:R->Prop)(hstep:∀n k s m fc,k<N->Inv k s m->(∀s' m' fc',Inv (k+1) s' m'->Q (X n (k+1) s' m' fc'))->Q (X (n+1) k s m fc))(hend:∀n s m fc,Inv N s m->Q (X (n+1) N s m fc)):∀n k s m fc,k<=N->N<n+k->Inv k s m->Q (X n k s m fc):=by
 intro n
 induction n with
 |zero=>intro k s m fc h1 h2;omega
 |succ n ih=>
  intro k s m fc h1 h2 hI
  rcases Nat.lt_or_ge k N with h|h
  .exact hstep n k s m fc h hI fun s' m' fc' hI'=>ih (k+1) s' m' fc' h (by omega) hI'
  .have:k=N:=by omega
   subst this
   exact hend n s m fc hI
def RetF(T:AV->Prop)(r:O2):Prop:=∃a m' a',r=some (a,m')/\frz m'.get deep a=some a'/\T a'
theorem RetF.st{T:AV->Prop}{a:AV}{m:Mem}(h:still a=true)(ht:T a):RetF T (some (a,m)):=⟨a,m,a,rfl,xwe _ 4 h,ht⟩
theorem RetF.tup{T:AV->Prop}{l:List AV}{m:Mem}(h:l.all still=true)(ht:T (.tup l)):RetF T (some (.tup l,m)):=⟨_,m,_,rfl,frz_tup h,ht⟩
theorem RetF.mk{T:AV->Prop}{a a':AV}{m:Mem}(h:frz m.get deep a=some a')(ht:T a'):RetF T (some (a,m)):=⟨a,m,a',rfl,h,ht⟩
theorem xwq{T:AV->Prop}{call:xut}{f:FuncId}{l:List AV}(hl:l.all still=true)(h:RetF T (call [] f l mem0))(m:Mem):∃a,T a/\xuv call f l m=some (a,m):=by
 obtain⟨a,m',a',h1,h2,h3⟩:=h
 exact⟨a',h3,x162 hl h1 h2⟩
theorem xw5{v:AV}{call:xut}{f:FuncId}{l:List AV}(hl:l.all still=true)(h:RetF (fun a=>a=v) (call [] f l mem0))(m:Mem):xuv call f l m=some (v,m):=by
 obtain⟨a,h1,h2⟩:=xwq hl h m
 rw[h2,h1]
theorem xxe{objs:Id->Option Ob}{a b a' b':AV}(ha:frz objs 5 a=some a')(hb:frz objs 5 b=some b'):frz objs deep (.tup [a,b])=some (.tup [a',b']):=by
 show([a,b].mapM (frz objs 5)).map AV.tup=_
 simp only[List.mapM_cons,List.mapM_nil,ha,hb]
 rfl
theorem frz_I{objs:Id->Option Ob}{k:Nat}{x:Int}:frz objs (k+1) (I x)=some (I x):=rfl
theorem Gr.frzk{α:Type}{z:Nat}{enc:α->List AV}{l:List α}{a:AV}(hz:∀x,(enc x).length=z)(hs:∀x,(enc x).all still1=true){u t k:Nat}{m:Mem}(h:Gr z enc u t m a l):∃a',Sl enc a' l/\Go.Ix.frz m.get (k+2) a=some a':=by
 rcases h with ⟨rfl,rfl⟩|⟨s,ver,rfl,hg⟩
 .exact⟨nilS,Or.inl ⟨rfl,rfl⟩,rfl⟩
 .have hl:=xwp hz l
  refine⟨.slit (l.flatMap enc) l.length false,Sl.lit l false,?_⟩
  have:=xz9 (objs:=m.get) (id:=(u,s,t)) (cs:=l.flatMap enc) (ver:=ver) (off:=0) (n:=l.length) (z:=z) (k:=k) (f:=false) (x:=true) hg (by omega) (by
   rw[List.drop_zero,List.take_of_length_le (by omega)];exact xyj hs l)
  rw[List.drop_zero,List.take_of_length_le (by omega)]at this
  exact this
theorem Gr.len{α:Type}{z:Nat}{enc:α->List AV}{l:List α}{a:AV}{u t:Nat}{m:Mem}{y e:TypeId}(ht:Tryz.prog.underlying y=some (.slice e))(h:Gr z enc u t m a l):sLen Tryz.prog y a=some (I l.length):=by
 rcases h with ⟨rfl,rfl⟩|⟨s,ver,rfl,hg⟩
 .exact x10x ht
 .rfl
theorem xxf{α:Type}{enc:α->List AV}{m:Mem}{l:List α}{k:Nat}(hk:k<l.length)(j:Nat){v:AV}(hv:((enc l[k]).drop j).head?=some v):sLd false 1 (.plit (((l.drop k).flatMap enc).drop j)) m=some v:=by
 rw[xvs hk,List.flatMap_cons]
 have hj:j<(enc l[k]).length:=by
  rcases Nat.lt_or_ge j (enc l[k]).length with h|h
  .exact h
  .rw[List.drop_of_length_le h]at hv;cases hv
 rw[List.drop_append_of_le_length (by omega)]
 cases hd:(enc l[k]).drop j with
 |nil=>rw[hd]at hv;cases hv
 |cons x r=>
  rw[hd]at hv
  simp at hv
  subst hv
  rfl
theorem x107(d:Nat)(a b c:Int)(m:Mem):xuv (xuu (d+1)) xv [I a,I b,I c] m=some (B (wi a b c),m):=by
 refine call0 rfl (m':=⟨[],1⟩) ?_ rfl
 rw[xhg]
 unfold x7t x9b wi
 by_cases h:b<=a<;>by_cases h2:a<=c<;>simp[h,h2,mem0]
theorem w_small7(d:Nat)(a b:Int)(m:Mem)(h:-9223372036854775807<=b/\b<=9223372036854775807):xuv (xuu (d+2)) x3t [I a,I b] m=some (B (wi a (-b) b),m):=by
 refine call0 rfl (m':=⟨[],1⟩) ?_ rfl
 rw[xhi]
 unfold x7v x9d
 simp(disch:=omega) [mem0,x107,xv1]
theorem w_size7(d:Nat)(a:Int)(m:Mem)(h1:-9223372036854775808<a)(h2:a<=9223372036854775807):xuv (xuu (d+1)) x3e [I a] m=some (I (a.natAbs:Int),m):=by
 refine call0 rfl (m':=⟨[],1⟩) ?_ rfl
 rw[xhs]
 unfold x85 x9o
 simp(disch:=omega) [mem0,xv1]
 split<;>omega
abbrev T(s:ByteArray):AV:=.sc (.string s)
abbrev U8(c:Int):AV:=.sc (.int .u8 c)
def u8E(b:UInt8):List AV:=[U8 b.toNat]
theorem u8E_len(b:UInt8):(u8E b).length=1:=rfl
theorem u8_ge(x y:Operand)(a b:Int):sBin Tryz.prog .geq xb x y (U8 a) (U8 b)=some (B (decide (b<=a))):=by kernel_rfl
theorem u8_le(x y:Operand)(a b:Int):sBin Tryz.prog .leq xb x y (U8 a) (U8 b)=some (B (decide (a<=b))):=by kernel_rfl
theorem u8_gt(x y:Operand)(a b:Int):sBin Tryz.prog .gtr xb x y (U8 a) (U8 b)=some (B (decide (b<a))):=by kernel_rfl
theorem u8_lt(x y:Operand)(a b:Int):sBin Tryz.prog .lss xb x y (U8 a) (U8 b)=some (B (decide (a<b))):=by kernel_rfl
theorem u8_eq(x y:Operand)(a b:Int):sBin Tryz.prog .eql xb x y (U8 a) (U8 b)=some (B (decide (a=b))):=by kernel_rfl
theorem u8_ne(x y:Operand)(a b:Int):sBin Tryz.prog .neq xb x y (U8 a) (U8 b)=some (B (!decide (a=b))):=by kernel_rfl
def teq(a b:ByteArray):Bool:=a.toList == b.toList
theorem t_eq(x y:Operand)(a b:ByteArray):sBin Tryz.prog .eql xk x y (T a) (T b)=some (B (teq a b)):=by kernel_rfl
@[simp] theorem sLenS_T(s:ByteArray):xyg (T s)=some (I s.size):=rfl
theorem u_bytes:Tryz.prog.underlying x4u=some (.slice xb):=by kernel_rfl
theorem u_u8:Tryz.prog.underlying xb=some (.int .u8):=by kernel_rfl
theorem u_str:Tryz.prog.underlying xk=some .string:=by kernel_rfl
theorem cvt_bytes(s:ByteArray):sCvt Tryz.prog xk x4u (T s)=some (.slit (s.data.toList.flatMap u8E) s.data.toList.length false):=by
 have e:(s.data.toList.map fun b=>U8 b.toNat)=s.data.toList.flatMap u8E:=by
  induction s.data.toList with
  |nil=>rfl
  |cons b l ih=>rw[List.map_cons,List.flatMap_cons,ih];rfl
 simp only[sCvt,xv9,x10d,u_bytes,u_u8,u_str]
 rw[e,xwp (z:=1) u8E_len s.data.toList,Nat.mul_one]
theorem idx_T{s:ByteArray}{k:Nat}(h:k<s.data.toList.length):sIdx Tryz.prog xk (T s) (I k)=some (U8 (s.data.toList[k]).toNat):=by
 have:xux Tryz.prog (Instr.index xk (.string s) (.int .i64 k))=some (.int .u8 (s.data.toList[k]).toNat):=by
  have h2:s[k]?=some s.data.toList[k]:=by
   have h3:k<s.size:=by simpa using h
   rw[getElem?_pos s k h3]
   rfl
  simp only[Instr.index,asIntOf,asInt,underlying,program,Bind.bind,Sem.bind,xux,Pure.pure,u_str]
  rw[if_pos (by omega),Int.toNat_natCast,h2]
  rfl
 have e:sIdx Tryz.prog xk (T s) (I k)=(xux Tryz.prog (Instr.index xk (.string s) (.int .i64 k))).map xvg:=by
  simp only[sIdx,I,xv9]
 rw[e,this]
 rfl
def chOK(p:Bool)(c:Int):Bool:=(decide (97<=c)&&decide (c<=122))||(decide (65<=c)&&decide (c<=90))||(p&&(decide (c=45)||(decide (48<=c)&&decide (c<=57))))
def xxr:Nat->List UInt8->Bool
 |_,[]=>true
 |k,c::r=>chOK (decide (0<k)) c.toNat&&xxr (k+1) r
def nmOK(s:ByteArray):Bool:=decide (0<s.size)&&decide (s.size<=12)&&xxr 0 s.data.toList
theorem ld_u8{m:Mem}{l:List UInt8}{k:Nat}(hk:k<l.length):sLd false 1 (.plit ((l.drop k).flatMap u8E)) m=some (U8 l[k].toNat):=by
 rw[xvs hk,List.flatMap_cons]
 rfl
theorem l_isName(call:xut)(hs:FHs)(u:Nat){a:AV}{l:List UInt8}(h:Sl u8E a l)(hl:l.length<=12):∀(suf:List UInt8) (k j:Nat) (m:Mem) (fc:Nat),l.drop k=suf->suf.length<j ->
 x1l call hs u j a (I l.length) (I k) m fc=some (B (xxr k suf),m):=by
 intro suf
 induction suf with
 |nil=>
  intro k j m fc hd hj
  obtain⟨j,rfl⟩:∃i,j=i+1:=⟨j-1,by simp at hj;omega⟩
  have hk:¬((k:Int)<(l.length:Int)):=by have:=List.drop_eq_nil_iff.mp hd;omega
  simp only[x1l]
  unfold x6p xl
  simp[hk,xxr]
 |cons e r ih=>
  intro k j m fc hd hj
  obtain⟨j,rfl⟩:∃i,j=i+1:=⟨j-1,by simp at hj;omega⟩
  obtain⟨hk,he,hd⟩:=xxq hd
  have hk':(k:Int)<(l.length:Int):=by omega
  have ix:=h.ix u8E_len hk
  have ld:=ld_u8 (m:=m) hk
  have next:∀fc,x1l call hs u j a (I l.length) (I (w64 ((k:Int)+1))) m fc=some (B (xxr (k+1) r),m):=fun fc=>by
   rw[xv1 (by omega) (by omega)]
   exact ih (k+1) j m fc hd (by simp at hj;omega)
  rw[he]at ld
  have hk0:decide ((0:Int)<(k:Int))=decide (0<k):=by simp
  simp only[x1l]
  unfold x6p x4t x4s x4r xi
  simp only[xwd,hk',decide_true,xw4,xv4,ix,ld,u8_ge,u8_le,u8_eq,sW_t,sW_f]
  simp only[xxr,chOK]
  generalize (e.toNat:Int)=c
  by_cases a1:97<=c<;>by_cases a2:c<=122<;>by_cases b1:65<=c<;>by_cases b2:c<=90<;>by_cases d1:48<=c<;>by_cases d2:c<=57<;>by_cases d0:c=45 <;>
   first
   |(exfalso;omega)
   |(by_cases hp:0<k<;>simp[a1,a2,b1,b2,d1,d2,d0,hp,u8_ge,u8_le,u8_eq,next])
theorem w_isName(d:Nat)(s:ByteArray)(m:Mem):xuv (xuu (d+1)) x42 [T s] m=some (B (nmOK s),m):=by
 refine call0 rfl (m':=⟨[],1⟩) ?_ rfl
 rw[xi2]
 have e0:teq s ⟨#[]⟩=decide (s.size=0):=by
  unfold teq
  rw[ByteArray.toList_eq,ByteArray.toList_eq]
  cases hs:s.data.toList with
  |nil=>
   have:s.size=0:=by show s.data.size=0;rw[<-Array.length_toList,hs];rfl
   simp[this]
  |cons x r=>
   have:s.size=r.length+1:=by show s.data.size=_;rw[<-Array.length_toList,hs];rfl
   simp[this]
 have hsz:s.data.toList.length=s.size:=rfl
 unfold x8f x9y nmOK
 simp only[t_eq,e0,xv4]
 by_cases h0:s.size=0
 .simp[h0,mem0]
 .by_cases h12:s.size<=12
  .have hL:=l_isName (xuu d) [] 0 (Sl.lit (enc:=u8E) s.data.toList false) (by omega) s.data.toList 0 NN ⟨[],1⟩ (fc:=12) rfl (by rw[xv8];omega)
   have hlen:sLen Tryz.prog x4u (.slit (s.data.toList.flatMap u8E) s.data.toList.length false)=some (I s.data.toList.length):=(Sl.lit (enc:=u8E) s.data.toList false).len u_bytes
   unfold x6q
   simp only[cvt_bytes,hlen]
   simp[h0,h12,show ¬((12:Int)<s.size) by omega,show 0<s.size by omega,mem0]
   exact hL
  .simp[h0,h12,show(12:Int)<s.size by omega,mem0]
theorem l_IsName(call:xut)(hs:FHs)(u:Nat){s:ByteArray}(hl:s.size<=12):∀(suf:List UInt8) (k j:Nat) (m:Mem) (fc:Nat),s.data.toList.drop k=suf->suf.length<j ->
 x1f call hs u j (T s) (I k) m fc=some (B (xxr k suf),m):=by
 have hsz:s.data.toList.length=s.size:=rfl
 intro suf
 induction suf with
 |nil=>
  intro k j m fc hd hj
  obtain⟨j,rfl⟩:∃i,j=i+1:=⟨j-1,by simp at hj;omega⟩
  have hk:¬((k:Int)<(s.size:Int)):=by have:=List.drop_eq_nil_iff.mp hd;omega
  simp only[x1f]
  unfold x5z x2d
  simp[hk,xxr]
 |cons e r ih=>
  intro k j m fc hd hj
  obtain⟨j,rfl⟩:∃i,j=i+1:=⟨j-1,by simp at hj;omega⟩
  obtain⟨hk,he,hd⟩:=xxq hd
  have hk':(k:Int)<(s.size:Int):=by omega
  have ix:=idx_T hk
  have next:∀fc,x1f call hs u j (T s) (I (w64 ((k:Int)+1))) m fc=some (B (xxr (k+1) r),m):=fun fc=>by
   rw[xv1 (by omega) (by omega)]
   exact ih (k+1) j m fc hd (by simp at hj;omega)
  rw[he]at ix
  simp only[x1f]
  unfold x5z
  simp only[sLenS_T,xv4,xwd,hk',decide_true,xw4,ix,u8_ge]
  simp only[xxr,chOK]
  generalize (e.toNat:Int)=c
  by_cases a1:97<=c<;>by_cases a2:c<=122<;>by_cases b1:65<=c<;>by_cases b2:c<=90<;>by_cases d1:c<48<;>by_cases d2:57<c<;>by_cases d0:c=45 <;>
   first
   |(exfalso;omega)
   |(have d1':(48<=c)=¬(c<48):=by rw[Int.not_lt]
     have d2':(c<=57)=¬(57<c):=by rw[Int.not_lt]
     by_cases hp:k=0<;>simp[a1,a2,b1,b2,d1,d2,d1',d2',d0,hp,Nat.pos_iff_ne_zero,u8_ge,u8_le,u8_eq,u8_ne,u8_lt,u8_gt,next]<;>(subst hp;have:=next (fc+44);simpa using this))
theorem w_IsName(d:Nat)(s:ByteArray)(m:Mem):xuv (xuu (d+1)) x3u [T s] m=some (B (nmOK s),m):=by
 refine call0 rfl (m':=⟨[],1⟩) ?_ rfl
 rw[xhj]
 have hsz:s.data.toList.length=s.size:=rfl
 unfold x7w x9e nmOK
 by_cases h0:s.size=0
 .simp[h0,mem0]
 .by_cases h12:s.size<=12
  .have hL:=l_IsName (xuu d) [] 0 (s:=s) h12 s.data.toList 0 NN ⟨[],1⟩ (fc:=10) rfl (by rw[xv8];omega)
   unfold x60
   simp[h0,h12,show ¬((12:Int)<s.size) by omega,show ¬((s.size:Int)<1) by omega,show 0<s.size by omega,mem0]
   exact hL
  .simp[h0,h12,show(12:Int)<s.size by omega,show ¬((s.size:Int)<1) by omega,mem0]
end Go.Ix
