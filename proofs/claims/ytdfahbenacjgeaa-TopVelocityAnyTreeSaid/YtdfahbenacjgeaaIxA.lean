import GoSem.Step
import Derived.Laws.Sem
import Derived.Lib.AtoiAll
import Derived.Orders
set_option linter.unusedSimpArgs false
set_option linter.unusedVariables false
namespace Go.Ix
abbrev xc1:=@if_neg
abbrev xc2:=@if_pos
abbrev xc3:=@Prod.mk.injEq
abbrev xc4:=@Option.some.injEq
abbrev xc5:=@Option.map_eq_some_iff
abbrev xc6:=@Bool.and_eq_true
abbrev xc7:=@Nat.le_refl
abbrev xc8:=@List.all_eq_true
abbrev xc9:=@List.mem_cons_of_mem
abbrev xca:=@List.take_of_length_le
abbrev xcb:=@Nat.eq_of_beq_eq_true
abbrev xcc:=@decide_true
abbrev xcd:=@List.drop_zero
abbrev xce:=@List.mem_cons
abbrev xcf:=@List.mem_cons_self
abbrev xcg:=@List.getD_eq_getElem?_getD
abbrev xch:=@List.mem_map
abbrev xci:=@List.getElem?_eq_getElem
abbrev xcj:=@List.map_cons
abbrev xck:=@if_false
abbrev xcl:=@Array.getElem?_eq_getElem
abbrev xcm:=@if_true
abbrev xcn:=@List.mem_filter
abbrev xco:=@List.length_cons
abbrev xcp:=@List.getElem_mem
abbrev xcq:=@Nat.lt_of_lt_of_le
abbrev xcr:=@Int.toNat_natCast
abbrev xcs:=@List.mem_range
abbrev xct:=@List.flatMap_cons
abbrev xcu:=@Nat.lt_or_ge
abbrev xcv:=@Bool.false_eq_true
abbrev xcw:=@List.getElem?_eq_some_iff
abbrev xcx:=@List.mapM_cons
abbrev xcy:=@List.map_nil
abbrev xcz:=@Bool.eq_false_iff
abbrev xd0:=@List.mem_append
abbrev xd1:=@List.mem_of_getElem?
abbrev xd2:=@decide_false
abbrev xd3:=@Bool.or_eq_true
abbrev xd4:=@Nat.le_trans
abbrev xd5:=@Nat.zero_add
abbrev xd6:=@Nat.succ_mul
abbrev xd7:=@Int.toNat_of_nonneg
abbrev xd8:=@Nat.mul_le_mul_right
abbrev xd9:=@List.take_succ_eq_append_getElem
abbrev xda:=@Bool.true_and
abbrev xdb:=@Option.bind_eq_some_iff
abbrev xdc:=@List.mem_flatMap
abbrev xdd:=@Array.getD_eq_getD_getElem?
abbrev xde:=@Nat.add_assoc
abbrev xdf:=@Bool.not_false
abbrev xdg:=@List.drop_of_length_le
abbrev xdh:=@Nat.le_of_ble_eq_true
abbrev xdi:=@Nat.beq_refl
abbrev xdj:=@Array.getElem?_setIfInBounds_ne
abbrev xdk:=@Array.length_toList
abbrev xdl:=@decide_eq_true
abbrev xdm:=@List.mapM_nil
abbrev xdn:=@Option.some.inj
abbrev xdo:=@List.all_cons
abbrev xdp:=@List.pairwise_cons
abbrev xdq:=@List.getElem?_drop
abbrev xdr:=@Nat.add_mul
abbrev xds:=@List.map_append
abbrev xdt:=@Bool.not_true
abbrev xdu:=@Nat.zero_mul
abbrev xdv:=@List.nodup_append
abbrev xdw:=@List.cons_append
abbrev xdx:=@List.length_append
abbrev xdy:=@List.length_eq_zero_iff
abbrev xdz:=@of_decide_eq_true
abbrev xe0:=@List.drop_succ_cons
abbrev xe1:=@List.length_set
abbrev xe2:=@List.getElem?_take
abbrev xe3:=@Array.getElem?_push_lt
abbrev xe4:=@Nat.mod_lt
abbrev xe5:=@List.nodup_cons
abbrev xe6:=@List.append_nil
abbrev xe7:=@List.drop_eq_nil_iff
abbrev xe8:=@Array.getElem?_eq_none
abbrev xe9:=@Nat.add_zero
abbrev xea:=@List.length_nil
abbrev xeb:=@List.getElem?_map
abbrev xec:=@Nat.lt_succ_self
abbrev xed:=@List.getElem?_append_left
abbrev xee:=@List.getElem?_append_right
abbrev xef:=@List.getElem?_eq_none
abbrev xeg:=@List.flatMap_eq_nil_iff
abbrev xeh:=@List.pairwise_append
abbrev xei:=@List.mem_append_left
abbrev xej:=@List.nil_append
abbrev xek:=@List.filter_cons
abbrev xel:=@Nat.mul_one
abbrev xem:=@Bool.and_true
abbrev xen:=@List.mem_iff_getElem?
abbrev xeo:=@List.foldl_cons
abbrev xep:=@List.length_map
abbrev xeq:=@List.take_zero
abbrev xer:=@decide_eq_true_eq
abbrev xes:=@Array.size_eq_one_iff
abbrev xet:=@Array.getElem?_setIfInBounds_self_of_lt
abbrev xeu:=@Option.bind_some
abbrev xev:=@Nat.le_succ
abbrev xew:=@List.filter_eq_self
abbrev xex:=@List.filter_append
abbrev xey:=@List.length_take
abbrev xez:=@Bool.and_self
abbrev xf0:=@Array.getElem?_eq_some_iff
abbrev xf1:=@Array.ext_getElem?
abbrev xf2:=@List.getElem?_append
abbrev xf3:=@Int.le_refl
abbrev xf4:=@List.getElem?_cons_zero
abbrev xf5:=@List.getElem?_cons_succ
abbrev xf6:=@Array.getElem?_toList
abbrev xf7:=@Nat.zero_le
abbrev xf8:=@Option.isSome_iff_exists
abbrev xf9:=@List.mem_singleton
abbrev xfa:=@List.mem_of_mem_take
abbrev xfb:=@Nat.ble_eq_true_of_le
abbrev xfc:=@List.all_nil
abbrev xfd:=@List.append_assoc
abbrev xfe:=@List.range_succ
abbrev xff:=@List.getElem?_set
abbrev xfg:=@List.mem_iff_getElem
abbrev xfh:=@Array.getElem?_modify
abbrev xfi:=@Array.getElem?_append
abbrev xfj:=@List.take_take
abbrev xfk:=@Array.getElem?_append_left
abbrev xfl:=@List.take_length
abbrev xfm:=@List.nodup_range
abbrev xfn:=@Array.all_eq_true_iff_forall_mem
abbrev xfo:=@Nat.lt_irrefl
abbrev xfp:=@Bool.not_eq_true'
abbrev xfq:=@List.drop_append
abbrev xfr:=@decide_eq_true_iff
abbrev xfs:=@List.take_succ_cons
abbrev xft:=@List.not_mem_nil
abbrev xfu:=@Nat.mul_le_mul
abbrev xfv:=@List.ext_getElem
abbrev xfw:=@List.Perm.refl
abbrev xfx:=@List.getElem_set_ne
abbrev xfy:=@Array.getElem?_setIfInBounds
abbrev xfz:=@Array.size_setIfInBounds
abbrev xg0:=@Array.foldl_toList
abbrev xg1:=@Array.mem_of_getElem?
abbrev xg2:=@Array.getElem?_append_right
abbrev xg3:=@Array.getElem?_replicate
abbrev xg4:=@List.map_congr_left
abbrev xg5:=@List.cons.injEq
abbrev xg6:=@List.mem_of_mem_drop
abbrev xg7:=@List.pairwise_lt_range
abbrev xg8:=@List.any_eq_false
abbrev xg9:=@List.take_append_of_le_length
abbrev xga:=@List.length_pos_iff
abbrev xgb:=@Bool.not_eq_true
abbrev xgc:=@decide_eq_false
abbrev xgd:=@Nat.pos_iff_ne_zero
abbrev xge:=@List.flatMap_nil
abbrev xgf:=@List.getElem_map
abbrev xgg:=@List.dropLast_concat_getLast
abbrev xgh:=@List.getElem_append_right
abbrev xgi:=@List.set_cons_succ
abbrev xgj:=@List.take_append_drop
abbrev xgk:=@List.getElem_take
abbrev xgl:=@List.reverse_cons
abbrev xgm:=@List.length_filter_le
abbrev xgn:=@Array.mapM_eq_mapM_toList
abbrev xgo:=@List.drop_append_of_le_length
abbrev xgp:=@List.take_length_add_append
abbrev xgq:=@List.set_eq_take_append_cons_drop
abbrev xgr:=@List.pairwise_iff_getElem
abbrev xgs:=@Int.mul_le_mul_of_nonneg_left
abbrev Id:=Nat×Nat×Nat
inductive AV where
 |sc (v:Value)
 |agg (cs:List AV)
 |tup (vs:List AV)
 |slit (cs:List AV) (n:Nat) (ex:Bool)
 |plit (cs:List AV)
 |sref (id:Id) (ver off n z:Nat) (full:Bool)
 |ptr (id:Id) (ver off:Nat)
 |clo (f:FuncId) (caps:List AV)
 |yld (id:Id)
 |mp (id:Id)
 |un (p:Value->Prop)
instance:Inhabited AV:=⟨.sc undef⟩
inductive Out where
 |normal
 |exit (id:Nat)
 |ret
inductive Ob where
 |row (cs:List AV) (ver:Nat) (frz:Bool)
 |map (es:List (Value×AV))
 |lp (d:Option Out)
 |bld (t e:TypeId) (l:List UInt8)
structure St where
 objs:Id->Option Ob
 next:Nat
structure S where
 sl:Nat->AV
 st:St
 fc:Nat
def upd{α:Type}(f:Nat->α)(i:Nat)(v:α):Nat->α:=λj=>if j=i then v else f j
def qM(f:Id->Option Ob)(i:Id)(v:Option Ob):Id->Option Ob:=λj=>if j=i then v else f j
def qR(P:Program){α:Type}:Sem α->Option α
 | .pure a=>some a
 | .program k=>qR P (k P)
 | .mark _ k=>qR P k
 |_=>none
def scs:List AV->Option (List Value)
 |[]=>some []
 | .sc v::r=>match scs r with
   |some l=>some (v::l)
   |none=>none
 |_=>none
def rA:AV->Option Value
 | .sc v=>some v
 | .agg cs=>match scs cs with
   |some l=>some (.agg l.toArray)
   |none=>none
 | .clo f []=>some (.func (.func f) #[] #[])
 |_=>none
def sE:Value->AV
 | .agg cs=>.agg (cs.toList.map .sc)
 | .tuple vs=>.tup (vs.toList.map .sc)
 |v=>.sc v
def AV.cells:AV->List AV
 | .sc v=>v.cells.toList.map .sc
 | .agg cs=>cs
 |a=>[a]
def AV.one:AV->Bool
 | .sc v=>v.oneCell'
 | .agg _ | .tup _=>false
 |_=>true
def clean1:AV->Bool
 | .sc _ | .slit .. | .plit _ | .un _=>true
 | .clo _ cs=>cs.all fun | .sc _ | .slit ..=>true|_=>false
 |_=>false
def clean:AV->Bool
 | .agg cs=>cs.all clean1
 |a=>clean1 a
def ev(sl:Nat->AV):Operand->AV
 | .tmp t=>sl t
 | .const v=>sE v
 | .global g=>.sc (.pointer (some ⟨g,0,none⟩))
 | .func f=>.clo f []
def ty(P:Program)(t:TypeId):Option (Bool×Nat):=
 match P.underlying t,P.info? t with
 |some (.struct _),some i=>some (true,i.size)
 |some (.array _ _),some i=>some (true,i.size)
 |some _,some i=>some (false,i.size)
 |_,_=>none
def rd(g:Bool)(z:Nat)(cs:List AV):Option AV:=
 if g then(if z<=cs.length then some (.agg (cs.take z))else none)else cs.head?
def rK(cs:List AV)(off:Nat)(vs:List AV):List AV:=cs.take off++(vs++cs.drop (off+vs.length))
def asI:AV->Option Int
 | .sc (.int _ n)=>some n
 |_=>none
def elems(objs:Id->Option Ob)(z:Nat):AV->Option (List AV×Nat)
 | .sc (.slice none 0 _)=>some ([],0)
 | .slit cs n _=>if n*z<=cs.length then some (cs.take (n*z),n)else none
 | .sref id ver off n z' _=>match objs id with
   |some (.row cs v _)=>if v=ver/\z'=z/\off+n*z<=cs.length then some ((cs.drop off).take (n*z),n)else none
   |_=>none
 |_=>none
def vY(place:Nat->Option (Nat×Nat))(cs:List AV):List (Nat×AV)->Option (List AV)
 |[]=>some cs
 |(i,v)::rest=>match place i with
  |some (off,size)=>if v.cells.length=size/\off+size<=cs.length then vY place (rK cs off v.cells) rest else none
  |none=>none
def fieldsOf(P:Program)(fs:Array Field):Option (List (Nat×Nat)):=
 fs.toList.mapM λf=>(P.info? f.type).map λi=>(f.offset,i.size)
def zeroCells(P:Program)(t:TypeId):Option (List AV):=
 match P.info? t with
 |some i=>match i.zero with
  |some v=>if v.cells.toList.all Value.oneCell' then some (v.cells.toList.map .sc)else none
  |none=>none
 |none=>none
def sF(z:List AV)(n:Nat):List AV:=(List.range n).map λi=>z.getD (i % z.length) (.sc undef)
def qW(n bytes:Nat):Prop:=(2*n+1000)*bytes<=2 ^ 47/\n<=2 ^ 47
instance (n bytes:Nat):Decidable (qW n bytes):=by unfold qW;infer_instance
def yI(P:Program)(id0:Id)(objs:Id->Option Ob)(argTypes:Array TypeId)(args:List AV):Option (AV×(Id->Option Ob)):=
 match argTypes.toList,args with
 |[t,t'],[s,x]=>match P.underlying t,P.underlying t' with
  |some (.slice e),some d=>match P.info? e,zeroCells P e with
   |some i,some zc=>if zc.length=i.size/\0<i.size then
    let src:=match d with
     | .int _=>match asI x with
       |some n=>if 0<=n/\n<=2 ^ 40/\n*i.bytes<=2 ^ 47 then some (sF zc (n.toNat*i.size),n.toNat)else none
       |none=>none
     |_=>elems objs i.size x
    match src with
    |some (src,m)=>match s with
     | .sc (.slice none 0 0)=>if m=0 then some (s,objs)else if qW m i.bytes then some (.sref id0 0 0 m i.size true,qM objs id0 (some (.row src 0 false)))else none
     | .slit cs n true=>if n*i.size<=cs.length then(if m=0 then some (s,objs)else if qW (n+m) i.bytes then some (.sref id0 0 0 (n+m) i.size true,qM objs id0 (some (.row (cs.take (n*i.size)++src) 0 false)))else none)else none
     | .sref id ver off n z true=>match objs id with
       |some (.row cs v false)=>if v=ver/\z=i.size/\off+n*z<=cs.length/\qW (n+m) i.bytes then
        if m=0 then some (s,objs)
        else if off+(n+m)*z<=cs.length then some (.sref id ver off (n+m) z true,qM objs id (some (.row (rK cs (off+n*z) src) v false)))
        else some (.sref id (ver+1) 0 (n+m) z true,qM objs id (some (.row ((cs.drop off).take (n*z)++src) (v+1) false)))
        else none
       |_=>none
     | .sref id ver off n z false=>match objs id with
       |some (.row cs v _)=>if v=ver/\z=i.size/\off+n*z<=cs.length/\qW (n+m) i.bytes then
        if m=0 then some (s,objs)
        else some (.sref id0 0 0 (n+m) i.size true,qM objs id0 (some (.row ((cs.drop off).take (n*z)++src) 0 false)))
        else none
       |_=>none
     |_=>none
    |none=>none
    else none
   |_,_=>none
  |_,_=>none
 |_,_=>none
def zI(P:Program)(objs:Id->Option Ob)(argTypes:Array TypeId)(args:List AV):Option (AV×(Id->Option Ob)):=
 match argTypes.toList,args with
 |t::_,[s,x]=>match P.underlying t with
  |some (.slice e)=>match P.info? e with
   |some i=>match elems objs i.size x with
    |some (src,m)=>match s with
     | .sref id ver off n z _=>match objs id with
       |some (.row cs v false)=>if v=ver/\z=i.size/\off+n*z<=cs.length then
        let k:=Nat.min m n
        some (.sc (.int .i64 k),qM objs id (some (.row (rK cs off (src.take (k*z))) v false)))
        else none
       |_=>none
     | .sc (.slice none 0 0)=>some (.sc (.int .i64 0),objs)
     |_=>none
    |none=>none
   |none=>none
  |_=>none
 |_,_=>none
def sO(l:List AV):Option (List Value):=
 match l with
 |[]=>some []
 |a::r=>match rA a,sO r with
  |some v,some vs=>some (v::vs)
  |_,_=>none
def G5(P:Program)(src dst:TypeId)(a:Value):Option (List AV):=
 match a with
 | .string s=>match P.underlying src,P.underlying dst with
   |some _,some (.slice e)=>match P.underlying e with
    |some (.int .u8)=>some (s.data.toList.map λb=>.sc (.int .u8 b.toNat))
    |_=>none
   |_,_=>none
 |_=>none
def zJ(P:Program){α:Type}:Sem α->Prop
 | .pure _=>True
 | .program k=>zJ P (k P)
 | .mark _ k=>zJ P k
 | .choose q k=>if q.forced=true then zJ P (k 0)else ∀t:Nat,zJ P (k (q.cut t))
 |_=>False
def may(P:Program){α:Type}:Sem α->α->Prop
 | .pure a,b=>a=b
 | .program k,b=>may P (k P) b
 | .mark _ k,b=>may P k b
 | .choose q k,b=>if q.forced=true then may P (k 0) b else ∃t:Nat,may P (k (q.cut t)) b
 |_,_=>False
def conc:AV->Value->Prop
 | .un p,v=>p v
 |a,v=>rA a=some v
def zK:List AV->List Value->Prop
 |[],[]=>True
 |a::l,v::vs=>conc a v/\zK l vs
 |_,_=>False
def one1(v:Value):Prop:=v.cells=#[v]/\v.oneCell'=true/\∀b,v≠.bool b
noncomputable def canon(q:Value->Prop):Option AV:=
 @dite _ (∃v0,∀v,q v->v=v0) (Classical.propDecidable _) (λh=>some (.sc (Classical.choose h))) (λ_=>@ite _ (∀v,q v->one1 v) (Classical.propDecidable _) (some (.un q)) none)
noncomputable def zL(P:Program)(l:List AV)(s:List Value->Sem Value):Option AV:=
 @ite _ ((∃vs,zK l vs)/\∀vs,zK l vs->zJ P (s vs)) (Classical.propDecidable _) (canon λv=>∃vs,zK l vs/\may P (s vs) v) none
def vOK:AV->Bool
 | .un _=>true
 |a=>(rA a).isSome
def y4(P:Program)(op:BinOp)(t:TypeId)(x y:Operand)(a b:AV):Option AV:=
 match rA a,rA b with
 |some a,some b=>(qR P (do eqGuard op t x y a b;binOp op t a b)).map sE
 |none,some (.slice none 0 0)=>match P.underlying t,a with
  |some (.slice _),.slit .. | some (.slice _),.sref ..=>match op with
   | .eql=>some (.sc (.bool false))
   | .neq=>some (.sc (.bool true))
   |_=>none
  |_,_=>none
 |_,_=>none
def binS(op:BinOp)(t:TypeId)(x y:Operand):List Value->Sem Value
 |[a,b]=>do eqGuard op t x y a b;binOp op t a b
 |_=>.pure undef
noncomputable def qT(P:Program)(op:BinOp)(t:TypeId)(x y:Operand)(a b:AV):Option AV:=
 match y4 P op t x y a b with
 |some r=>some r
 |none=>zL P [a,b] (binS op t x y)
def un0(P:Program)(op:UnOp)(a:AV):Option AV:=
 match rA a with
 |some a=>(qR P (Op.unary op a)).map sE
 |none=>none
def unS(op:UnOp):List Value->Sem Value
 |[a]=>Op.unary op a
 |_=>.pure undef
noncomputable def sUn(P:Program)(op:UnOp)(a:AV):Option AV:=
 match un0 P op a with
 |some r=>some r
 |none=>zL P [a] (unS op)
def cvt0(P:Program)(src dst:TypeId)(a:AV):Option AV:=
 match rA a with
 |some a=>match G5 P src dst a with
  |some cs=>some (.slit cs cs.length false)
  |none=>(qR P (convert src dst a)).map sE
 |none=>none
def cvtS(src dst:TypeId):List Value->Sem Value
 |[a]=>convert src dst a
 |_=>.pure undef
noncomputable def vS(P:Program)(src dst:TypeId)(a:AV):Option AV:=
 match cvt0 P src dst a with
 |some r=>some r
 |none=>zL P [a] (cvtS src dst)
def biS(b:Builtin)(argTypes:Array TypeId)(type:TypeId)(vs:List Value):Sem Value:=
 match b with
 | .cap=>Builtin.cap_ argTypes type vs.toArray
 | .max=>Builtin.max_ argTypes type vs.toArray
 | .min=>Builtin.min_ argTypes type vs.toArray
 | .real=>Builtin.real_ argTypes type vs.toArray
 | .imag=>Builtin.imag_ argTypes type vs.toArray
 | .complex=>Builtin.complex_ argTypes type vs.toArray
 |_=>.halt (.stuck "")
def bi0(P:Program)(b:Builtin)(argTypes:Array TypeId)(type:TypeId)(args:List AV):Option AV:=
 match sO args with
 |some vs=>(qR P (biS b argTypes type vs)).map sE
 |none=>none
noncomputable def uV(P:Program)(b:Builtin)(argTypes:Array TypeId)(type:TypeId)(args:List AV):Option AV:=
 match bi0 P b argTypes type args with
 |some r=>some r
 |none=>zL P args (biS b argTypes type)
def extK:Next->Sem Value
 | .value u=>.pure u
 |_=>.halt (.stuck "")
def extS(f:FuncId)(vs:List Value):Sem Value:=callFunc f vs.toArray >>= extK
def ext0(P:Program)(f:FuncId)(args:List AV):Option AV:=
 match sO args with
 |some vs=>match qR P (callFunc f vs.toArray)with
  |some (.value u)=>some (sE u)
  |_=>none
 |none=>none
noncomputable def sExtn(P:Program)(f:FuncId)(args:List AV):Option AV:=
 match ext0 P f args with
 |some r=>some r
 |none=>zL P args (extS f)
def G6(P:Program)(objs:Id->Option Ob)(argTypes:Array TypeId)(args:List AV):Option (AV×(Id->Option Ob)):=
 match argTypes.toList,args with
 |[t],[s]=>match P.underlying t with
  |some (.slice el)=>match P.info? el,zeroCells P el with
   |some i,some z=>if z.length=i.size then match s with
    | .sc (.slice none _ _)=>some (.tup [],objs)
    | .sref id ver off n z' _=>match objs id with
      |some (.row cs v false)=>if v=ver/\z'=i.size/\off+n*z'<=cs.length then some (.tup [],qM objs id (some (.row (rK cs off (sF z (n*i.size))) v false)))else none
      |_=>none
    |_=>none
    else none
   |_,_=>none
  |_=>none
 |_,_=>none
noncomputable def rY(P:Program)(id0:Id)(objs:Id->Option Ob)(b:Builtin)(argTypes:Array TypeId)(type:TypeId)(args:List AV):Option (AV×(Id->Option Ob)):=
 match b with
 | .append=>yI P id0 objs argTypes args
 | .copy=>zI P objs argTypes args
 | .len=>match args with
   |[.slit _ n _]=>match P.underlying (argTypes.getD 0 0)with
    |some (.slice _)=>if argTypes.size=1 then some (.sc (.int .i64 n),objs)else none
    |_=>none
   |[.sref _ _ _ n _ _]=>match P.underlying (argTypes.getD 0 0)with
    |some (.slice _)=>if argTypes.size=1 then some (.sc (.int .i64 n),objs)else none
    |_=>none
   |[.mp id]=>match objs id with
    |some (.map es)=>match P.underlying (argTypes.getD 0 0)with
     |some (.map _ _)=>if argTypes.size=1 then some (.sc (.int .i64 es.length),objs)else none
     |_=>none
    |_=>none
   |_=>match sO args with
    |some vs=>(qR P (Builtin.len_ argTypes type vs.toArray)).map λv=>(sE v,objs)
    |none=>none
 | .cap=>(uV P .cap argTypes type args).map λv=>(v,objs)
 | .max=>(uV P .max argTypes type args).map λv=>(v,objs)
 | .min=>(uV P .min argTypes type args).map λv=>(v,objs)
 | .real=>(uV P .real argTypes type args).map λv=>(v,objs)
 | .imag=>(uV P .imag argTypes type args).map λv=>(v,objs)
 | .complex=>(uV P .complex argTypes type args).map λv=>(v,objs)
 | .clear=>G6 P objs argTypes args
 |_=>none
def l6:List Value->List Value->Bool
 |[],[]=>true
 | .int k a::r,.int k' b::r'=>(k == k'&&a == b)&&l6 r r'
 |_,_=>false
def sV:Value->Value->Bool
 | .int k a,.int k' b=>k == k'&&a == b
 | .string a,.string b=>a == b
 | .bool a,.bool b=>a == b
 | .agg a,.agg b=>l6 a.toList b.toList
 |_,_=>false
def findKey(k:Value):List (Value×AV)->Option AV
 |[]=>none
 |(k',v)::r=>if sV k k' then some v else findKey k r
def setKey(k:Value)(v:AV):List (Value×AV)->List (Value×AV)
 |[]=>[(k,v)]
 |(k',v')::r=>if sV k k' then(k,v)::r else(k',v')::setKey k v r
def xG(d:TypeDesc)(k:Value)(es:List (Value×AV)):Bool:=
 match d with
 | .int kd=>(k::es.map (·.1)).all fun | .int k' _=>k' == kd|_=>false
 | .string=>(k::es.map (·.1)).all fun | .string _=>true|_=>false
 | .bool=>(k::es.map (·.1)).all fun | .bool _=>true|_=>false
 |_=>false
def M7(P:Program)(kt:TypeId)(d:TypeDesc)(k:Value)(es:List (Value×AV)):Bool:=
 match d,k with
 | .struct _,.agg _ | .array _ _,.agg _=>sV k k&&((qR P (Instr.checkKey true 10000 kt k)).isSome&&(qR P (Instr.checkKey false 10000 kt k)).isSome) &&
  es.all λe=>match e.1,qR P (Op.equal kt k e.1)with
   | .agg _,some b=>b == sV k e.1
   |_,_=>false
 |_,_=>false
def yJ(P:Program)(kt:TypeId)(d:TypeDesc)(k:Value)(es:List (Value×AV)):Bool:=xG d k es||M7 P kt d k es
def B5(P:Program)(t:TypeId):Option AV:=
 match P.info? t with
 |some i=>match i.zero with
  |some v=>some (sE v)
  |none=>none
 |none=>none
def xH(objs:Id->Option Ob):AV->Option (List (Value×AV))
 | .mp id=>match objs id with
   |some (.map es)=>some es
   |_=>none
 | .sc (.map none)=>some []
 |_=>none
def u8s:List AV->Option (List UInt8)
 |[]=>some []
 | .sc (.int .u8 n)::r=>(u8s r).map (UInt8.ofNat n.toNat::·)
 |_=>none
def vZ(P:Program)(objs:Id->Option Ob)(src dst:TypeId)(a:AV):Option ByteArray:=
 match P.underlying src,P.underlying dst with
 |some (.slice el),some .string=>match P.underlying el with
  |some (.int .u8)=>match elems objs 1 a with
   |some (cs,_)=>(u8s cs).map λl=>⟨l.toArray⟩
   |none=>none
  |_=>none
 |_,_=>none
def G7(P:Program)(t:TypeId)(cs:List AV):Option TypeId:=
 match cs with
 |[.sc (.pointer none),.sc (.slice none 0 0)]=>match P.underlying t with
  |some (.struct fs)=>match fs.toList with
   |[a,b]=>if a.name = "addr"/\b.name = "buf" then(match P.underlying b.type with|some (.slice e)=>some e|_=>none)else none
   |_=>none
  |_=>none
 |_=>none
noncomputable def qH(P:Program)(id0:Id)(o:Oper)(sl:Nat->AV)(objs:Id->Option Ob):Option (AV×(Id->Option Ob)):=
 let e:=ev sl
 match o.op with
 | .move x | .assign x=>some (e x,objs)
 | .pick c a b=>match e c with
   | .sc (.bool t)=>some (if t then e a else e b,objs)
   |_=>none
 | .alloc t=>match zeroCells P t with
   |some cs=>match G7 P t cs with
    |some e=>some (.ptr id0 0 0,qM objs id0 (some (.bld t e [])))
    |none=>some (.ptr id0 0 0,qM objs id0 (some (.row cs 0 false)))
   |none=>none
 | .box _ x=>if(e x).cells.all AV.one then some (.ptr id0 0 0,qM objs id0 (some (.row (e x).cells 0 false)))else none
 | .build t parts=>match P.underlying t,zeroCells P t with
   |some (.struct fs),some z=>match fieldsOf P fs with
    |some pl=>(vY (pl[·]?) z (parts.toList.map λ(i,x)=>(i,e x))).map λcs=>(.agg cs,objs)
    |none=>none
   |some (.array _ el),some z=>match P.info? el with
    |some i=>(vY (λk=>some (k*i.size,i.size)) z (parts.toList.map λ(k,x)=>(k,e x))).map λcs=>(.agg cs,objs)
    |none=>none
   |_,_=>none
 | .buildSlice t len parts=>match P.underlying t with
   |some (.slice el)=>match P.info? el,zeroCells P el with
    |some i,some z=>if len*i.size<=2 ^ 24/\z.length=i.size then
     match vY (λk=>some (k*i.size,i.size)) (sF z (len*i.size)) (parts.toList.map λ(k,x)=>(k,e x))with
     |some cs=>if !(cs.all AV.one)then none else if cs.all clean1 then some (.slit cs len true,objs)else some (.sref id0 0 0 len i.size true,qM objs id0 (some (.row cs 0 false)))
     |none=>none
     else none
    |_,_=>none
   |_=>none
 | .load t a=>match ty P t with
   |some (g,z)=>match e a with
    | .plit cs=>if cs.isEmpty then none else(rd g z cs).map λv=>(v,objs)
    | .ptr id ver off=>match objs id with
      |some (.row cs v _)=>if v=ver then(rd g z (cs.drop off)).map λv=>(v,objs)else none
      |_=>none
    |_=>none
   |none=>none
 | .store t a x=>match ty P t with
   |some (_,z)=>match e a with
    | .ptr id ver off=>match objs id with
      |some (.row cs v false)=>if v=ver/\(e x).cells.length=z/\off+z<=cs.length/\((e x).cells.all AV.one)then
       some (.sc undef,qM objs id (some (.row (rK cs off (e x).cells) v false)))else none
      |_=>none
    |_=>none
   |none=>none
 | .nilCheck x=>match e x with
   | .sc v=>match v with
     | .pointer none | .nilIface | .nilFunc | .func ..=>none
     |v=>some (.sc v,objs)
   | .ptr id v o=>some (.ptr id v o,objs)
   | .plit cs=>some (.plit cs,objs)
   | .clo f cs=>some (.clo f cs,objs)
   | .yld l=>some (.yld l,objs)
   |_=>none
 | .binOp op t x y _=>(qT P op t x y (e x) (e y)).map λv=>(v,objs)
 | .unOp op _ x=>(sUn P op (e x)).map λv=>(v,objs)
 | .convert src dst x=>match vZ P objs src dst (e x)with
   |some s=>some (.sc (.string s),objs)
   |none=>(vS P src dst (e x)).map λv=>(v,objs)
 | .makeFunc (.func f) first captured=>if first.size=0 then some (.clo f (captured.toList.map e),objs)else none
 | .makeSlice t l c=>match P.underlying t with
   |some (.slice el)=>match P.info? el,zeroCells P el,asI (e l),asI (e c)with
    |some i,some z,some l,some c=>if 0<=l/\l<=c/\i.bytes*c<=2 ^ 47/\c<=2 ^ 47/\z.length=i.size then
     some (.sref id0 0 0 l.toNat i.size true,qM objs id0 (some (.row (sF z (c.toNat*i.size)) 0 false)))else none
    |_,_,_,_=>none
   |_=>none
 | .slice t x lo hi none=>
   match rA (e x)with
   |some v=>match sO (lo.toList.map e),sO (hi.toList.map e)with
    |some ls,some hs=>(qR P (Instr.sliceAt t v (ls[0]?) (hs[0]?) none)).map λv=>(sE v,objs)
    |_,_=>none
   |none=>match P.underlying t with
    |some (.slice el)=>match P.info? el,asI (match lo with|some x=>e x|none=>.sc (.int .i64 0))with
     |some i,some l=>match e x with
      | .slit cs n x=>match asI (match hi with|some x=>e x|none=>.sc (.int .i64 n))with
        |some h=>if 0<=l/\l<=h/\h<=n/\n*i.size<=cs.length then some (.slit ((cs.drop (l.toNat*i.size)).take ((h-l).toNat*i.size)) (h-l).toNat (x&&decide (h=n)),objs)else none
        |none=>none
      | .sref id ver off n z full=>match asI (match hi with|some x=>e x|none=>.sc (.int .i64 n))with
        |some h=>if 0<=l/\l<=h/\h<=n/\z=i.size/\(full=true\/h=n)then some (.sref id ver (off+l.toNat*z) (h-l).toNat z full,objs)else none
        |none=>none
      |_=>none
     |_,_=>none
    |some (.array n el)=>match P.info? el,asI (match lo with|some x=>e x|none=>.sc (.int .i64 0)),asI (match hi with|some x=>e x|none=>.sc (.int .i64 n))with
     |some i,some l,some h=>match e x with
      | .ptr id ver off=>match objs id with
        |some (.row cs v _)=>if 0<=l/\l<=h/\h=n/\v=ver/\off+n*i.size<=cs.length then some (.sref id ver (off+l.toNat*i.size) (h-l).toNat i.size false,objs)else none
        |_=>none
      |_=>none
     |_,_,_=>none
    |_=>none
 | .slice t x lo (some hi) (some mx)=>
   match rA (e x)with
   |some v=>match sO (lo.toList.map e),rA (e hi),rA (e mx)with
    |some ls,some h,some m=>(qR P (Instr.sliceAt t v (ls[0]?) (some h) (some m))).map λv=>(sE v,objs)
    |_,_,_=>none
   |none=>match P.underlying t with
    |some (.slice el)=>match P.info? el,asI (match lo with|some x=>e x|none=>.sc (.int .i64 0)),asI (e hi),asI (e mx)with
     |some i,some l,some h,some m=>match e x with
      | .slit cs n _=>if 0<=l/\l<=h/\h<=n/\m=h/\n*i.size<=cs.length then some (.slit ((cs.drop (l.toNat*i.size)).take ((h-l).toNat*i.size)) (h-l).toNat true,objs)else none
      | .sref id ver off n z _=>if 0<=l/\l<=h/\h<=n/\m=h/\z=i.size then some (.sref id ver (off+l.toNat*z) (h-l).toNat z false,objs)else none
      |_=>none
     |_,_,_,_=>none
    |_=>none
 | .makeInterface t x=>match rA (e x)with
   |some v=>(qR P (Instr.makeInterface t v)).map λv=>(sE v,objs)
   |none=>none
 | .sliceToArrayPointer t x=>match P.underlying t with
   |some (.array n _)=>match e x with
    | .slit cs q _=>if 0<n/\n<=q then some (.plit cs,objs)else none
    | .sref id ver off q _ _=>if 0<n/\n<=q then some (.ptr id ver off,objs)else none
    |_=>none
   |_=>none
 | .fieldAddr t x f=>match P.underlying t with
   |some (.struct fs)=>match fs[f]? with
    |some fd=>match P.info? fd.type with
     |some i=>if i.size=0 then none else match e x with
      | .ptr id ver off=>some (.ptr id ver (off+fd.offset),objs)
      | .plit cs=>some (.plit (cs.drop fd.offset),objs)
      |_=>none
     |none=>none
    |none=>none
   |_=>none
 | .field t x f=>match P.underlying t with
   |some (.struct fs)=>match fs[f]? with
    |some fd=>match ty P fd.type,e x with
     |some (g,z),.agg cs=>(rd g z (cs.drop fd.offset)).map λv=>(v,objs)
     |_,_=>none
    |none=>none
   |_=>none
 | .indexAddr t x ix=>match asI (e ix)with
   |some k=>match P.underlying t with
    |some (.slice el)=>match P.info? el with
     |some i=>match e x with
      | .slit cs n _=>if 0<=k/\k<n then some (.plit (cs.drop (k.toNat*i.size)),objs)else none
      | .sref id ver off n z _=>if 0<=k/\k<n/\z=i.size then some (.ptr id ver (off+k.toNat*z),objs)else none
      |_=>none
     |none=>none
    |some (.array n el)=>match P.info? el with
     |some i=>match e x with
      | .ptr id ver off=>if 0<=k/\k<n then some (.ptr id ver (off+k.toNat*i.size),objs)else none
      | .plit cs=>if 0<=k/\k<n then some (.plit (cs.drop (k.toNat*i.size)),objs)else none
      |_=>none
     |none=>none
    |_=>none
   |none=>none
 | .index t x ix=>match e x with
   | .agg cs=>match asI (e ix),P.underlying t with
     |some k,some (.array n el)=>match ty P el with
      |some (g,z)=>if 0<=k/\k<n then(rd g z (cs.drop (k.toNat*z))).map λv=>(v,objs)else none
      |none=>none
     |_,_=>none
   | .sc v=>match rA (e ix)with
     |some k=>(qR P (Instr.index t v k)).map λv=>(sE v,objs)
     |none=>none
   |_=>none
 | .extract x i=>match e x with
   | .tup vs=>(vs[i]?).map λv=>(v,objs)
   |_=>none
 | .makeMap _ none=>some (.mp id0,qM objs id0 (some (.map [])))
 | .lookup t x ix ok=>match P.underlying t,rA (e ix)with
   |some (.map kt et),some k=>match P.underlying kt,B5 P et with
    |some d,some zv=>
     match xH objs (e x)with
     |some es=>if yJ P kt d k es then some (if ok then .tup [(findKey k es).getD zv,.sc (.bool (findKey k es).isSome)]else(findKey k es).getD zv,objs)else none
     |none=>none
    |_,_=>none
   |_,_=>none
 | .mapUpdate t m k x=>match P.underlying t,rA (e k),e m with
   |some (.map kt _),some kv,.mp id=>match P.underlying kt,objs id with
    |some d,some (.map es)=>if yJ P kt d kv es then some (.sc undef,qM objs id (some (.map (setKey kv (e x) es))))else none
    |_,_=>none
   |_,_,_=>none
 | .insert t m k x=>match P.underlying t,rA (e k),e m with
   |some (.map kt _),some kv,.mp id=>match P.underlying kt,objs id with
    |some d,some (.map es)=>if yJ P kt d kv es then some (.sc undef,qM objs id (some (.map (setKey kv (e x) es))))else none
    |_,_=>none
   |_,_,_=>none
 | .call c=>match c.callee with
   | .builtin b=>rY P id0 objs b c.argTypes o.type (c.args.toList.map e)
   |_=>none
 |_=>none
def frz(objs:Id->Option Ob):Nat->AV->Option AV
 |0,_=>none
 |k+1,a=>match a with
  | .sc v=>some (.sc v)
  | .agg cs=>(cs.mapM (frz objs k)).map .agg
  | .tup cs=>(cs.mapM (frz objs k)).map .tup
  | .slit cs n x=>some (.slit cs n x)
  | .plit cs=>some (.plit cs)
  | .un p=>some (.un p)
  | .sref id ver off n z _=>match objs id with
    |some (.row cs v _)=>if v=ver/\off+n*z<=cs.length then(((cs.drop off).take (n*z)).mapM (frz objs k)).map λl=>.slit l n false else none
    |_=>none
  | .ptr id ver off=>match objs id with
    |some (.row cs v _)=>if v=ver then((cs.drop off).mapM (frz objs k)).map .plit else none
    |_=>none
  | .clo f cs=>(cs.mapM (frz objs k)).map (.clo f)
  |_=>none
def reach(objs:Id->Option Ob):Nat->AV->List Id
 |0,_=>[]
 |k+1,a=>match a with
  | .agg cs | .tup cs | .clo _ cs=>cs.flatMap (reach objs k)
  | .sref id _ off n z _=>match objs id with
    |some (.row cs _ _)=>id::((cs.drop off).take (n*z)).flatMap (reach objs k)
    |_=>[id]
  | .ptr id _ off=>match objs id with
    |some (.row cs _ _)=>id::(cs.drop off).flatMap (reach objs k)
    |_=>[id]
  |_=>[]
def shut(ids:List Id)(objs:Id->Option Ob):Id->Option Ob:=λi=>
 if i∈ids then(match objs i with
  |some (.row cs v _)=>some (.row cs v true)
  |o=>o)
 else objs i
abbrev Hs:=List (Id×(List AV->St->Option St))
def vD(objs:Id->Option Ob)(id:Id):Bool:=
 bif Nat.beq id.2.2 0 then true else match objs id with
 |some (.lp (some _))=>false
 |_=>true
def vN:Hs->Id->Option (List AV->St->Option St)
 |[],_=>none
 |(i,h)::r,id=>if i=id then some h else vN r id
abbrev Pol:=FuncId->Nat->Nat
structure Ctx where
 f:FuncId
 u:Nat
 nt:Nat
 hs:Hs
def vT:St:={objs:=λ_=>none,next:=0}
def qN:Nat:=6
def xI:AV->Bool
 | .sc _=>true
 | .agg cs | .tup cs=>cs.all fun | .sc _=>true|_=>false
 |_=>false
def y5:AV->Bool
 | .sc _=>true
 |_=>false
def B6:AV->Bool
 | .sc _ | .sref ..=>true
 | .agg cs | .tup cs=>cs.all fun | .sc _ | .sref ..=>true|_=>false
 |_=>false
def nm(mode:Nat):Nat:=match mode with
 |6=>0
 |7=>3
 |8=>4
 |m=>m
def wS:Op->Bool
 | .move _ | .assign _ | .pick .. | .binOp .. | .unOp .. | .convert .. | .sliceToArrayPointer .. | .fieldAddr .. | .field .. | .indexAddr .. | .index .. | .extract .. | .build .. | .nilCheck _ | .makeFunc ..=>true
 | .load .. | .lookup .. | .slice ..=>true
 | .call c=>match c.callee with
   | .builtin .len | .builtin .min | .builtin .max | .builtin .cap | .builtin .real | .builtin .imag | .builtin .complex=>true
   |_=>false
 |_=>false
def yK:Op->Bool
 | .alloc _ | .box _ _ | .makeSlice .. | .makeMap .. | .buildSlice ..=>true
 |_=>false
def zM:Op->Bool
 | .move _ | .assign _ | .pick .. | .binOp .. | .unOp .. | .convert .. | .sliceToArrayPointer .. | .fieldAddr .. | .field .. | .indexAddr .. | .index .. | .extract .. | .build .. | .nilCheck _ | .makeFunc ..=>true
 | .call c=>match c.callee with
   | .builtin .len | .builtin .min | .builtin .max | .builtin .cap | .builtin .real | .builtin .imag | .builtin .complex=>true
   |_=>false
 |_=>false
def xJ(mode:Nat)(x:Oper)(y:Op):Bool:=
 (match x.op with
 | .call {callee:=.value (.func _),.. }=>true
 |_=>false)&&((yK y&&(Nat.beq mode 6||Nat.beq mode 7||Nat.beq mode 8))||(wS y&&(Nat.beq mode 6||Nat.beq mode 7))||((yK y||zM y)&&Nat.beq mode 9))
def rZ(call:Hs->FuncId->List AV->St->Option (AV×St))(hs:Hs)(mode:Nat)(fv:AV)(args:List AV)(st:St):Option (AV×St):=
 match fv with
 | .clo f caps=>
   match mode with
   |0=>match (args++caps).mapM (frz st.objs qN)with
    |some l=>match call [] f l vT with
     |some (r,st')=>(frz st'.objs qN r).map λr=>(r,{st with objs:=shut ((args++caps).flatMap (reach st.objs qN)) st.objs})
     |none=>none
    |none=>none
   |3=>match (args++caps).mapM (frz st.objs qN)with
    |some l=>match call [] f l vT with
     |some (r,_)=>if xI r then some (r,st)else none
     |none=>none
    |none=>none
   |4=>match (args++caps).mapM (frz st.objs qN)with
    |some l=>match call [] f l {objs:=λ_=>none,next:=st.next}with
     |some (r,st')=>
      let ids:=reach st'.objs qN r
      if B6 r&&ids.all (λi=>decide (st.next<=i.1)&&match st'.objs i with|some (.row cs _ false)=>cs.all y5|_=>false)then
       some (r,{objs:=λi=>if i∈ids then st'.objs i else st.objs i,next:=st'.next})
      else none
     |none=>none
    |none=>none
   |1=>if(args++caps).all clean then match call [] f (args++caps) {objs:=λ_=>none,next:=st.next}with
     |some (r,st')=>some (r,{objs:=λi=>if st.next<=i.1 then st'.objs i else st.objs i,next:=st'.next})
     |none=>none
    else none
   |_=>call hs f (args++caps) st
 | .yld id=>match vN hs id with
   |some h=>(h args st).map λst'=>(.sc (.bool (vD st'.objs id)),st')
   |none=>none
 |_=>none
def wT(u fc:Nat)(id:Id):Bool:=Nat.beq id.1 u&&Nat.ble fc id.2.1
def yL(u fc:Nat)(st:St):St:={st with objs:=λid=>if wT u fc id=true then none else st.objs id}
def G8(u fc:Nat)(st st':St):St:={st' with objs:=λid=>if wT u fc id=true then st.objs id else st'.objs id}
def tZ(call:Hs->FuncId->List AV->St->Option (AV×St))(u fc:Nat)(hs:Hs)(mode:Nat)(fv:AV)(args:List AV)(st:St):Option (AV×St):=
 if mode=9 then
  match fv with
  | .clo f caps=>match call [] f (args++caps) (yL u fc st)with
    |some (r,st')=>some (r,G8 u fc st st')
    |none=>none
  |_=>none
 else rZ call hs mode fv args st
def put(c:Ctx)(dst:Option Tmp)(v:AV)(s:S):Option S:=
 match dst with
 |some d=>if d<c.nt then some {s with sl:=upd s.sl d v}else none
 |none=>some s
def vE(ops:Array Oper)(o:Oper)(sl:Nat->AV):Bool:=
 match o.guard with
 |none=>true
 |some (j,want)=>match (ops[j]?).bind (·.dst)with
  |some t=>match sl t with
   | .sc (.bool b)=>b == want
   |_=>false
  |none=>false
def y6(P:Program)(a:AV)(name:String):Option (FuncId×AV):=
 match a with
 | .sc (.iface t v)=>(qR P (method (P.types.size+Made.depth) t v name)).map λp=>(p.1,sE p.2)
 |_=>none
noncomputable def tB(P:Program)(pol:Pol)(call:Hs->FuncId->List AV->St->Option (AV×St))(c:Ctx)(ops:Array Oper)(i:Nat)(s:S):Option S:=
 match ops[i]? with
 |none=>some s
 |some o=>
  if vE ops o s.sl then
   match o.op with
   | .call {callee:=.value fv,args,.. }=>
     match tZ call c.u s.fc c.hs (nm (pol c.f (o.dst.getD 0))) (ev s.sl fv) (args.toList.map (ev s.sl)) s.st with
     |some (v,st')=>put c o.dst v {s with st:=st' }
     |none=>none
   | .call {callee:=.invoke rv name,args,.. }=>
     match y6 P (ev s.sl rv) name with
     |some (f,r)=>match rZ call c.hs (nm (pol c.f (o.dst.getD 0))) (.clo f []) (r::args.toList.map (ev s.sl)) s.st with
      |some (v,st')=>put c o.dst v {s with st:=st' }
      |none=>none
     |none=>none
   |_=>match qH P (c.u,s.fc+i,o.dst.getD 0) o s.sl s.st.objs with
    |some (v,objs')=>put c o.dst v {s with st:={s.st with objs:=objs' }}
    |none=>none
  else put c o.dst (.sc undef) s
noncomputable def sX(P:Program)(pol:Pol)(call:Hs->FuncId->List AV->St->Option (AV×St))(c:Ctx)(ops:Array Oper):List Nat->S->Option S
 |[],s=>some s
 |i::r,s=>match tB P pol call c ops i s with
  |some s'=>sX P pol call c ops r s'
  |none=>none
def xK(ops:Array Oper):List (List Nat):=
 ops.toList.foldl (λacc o=>acc++[(o.after.toList.filter (Region.binds .any)).flatMap λe=>e.on::acc.getD e.on []]) []
def qY(id0:Id)(o:Oper)(sl:Nat->AV):Option (List Id)×Option (List Id):=
 match o.op with
 | .load _ a=>match ev sl a with
   | .ptr id _ _=>(some [id],some [])
   |_=>(some [],some [])
 | .store _ a _=>match ev sl a with
   | .ptr id _ _=>(some [],some [id])
   |_=>(none,none)
 | .alloc _ | .box _ _ | .makeSlice .. | .makeMap .. | .buildSlice ..=>(some [],some [id0])
 | .lookup _ x _ _=>match ev sl x with
   | .mp id=>(some [id],some [])
   |_=>(some [],some [])
 | .slice _ x _ _ _=>match ev sl x with
   | .ptr id _ _=>(some [id],some [])
   |_=>(some [],some [])
 | .move _ | .assign _ | .pick .. | .binOp .. | .unOp .. | .convert .. | .sliceToArrayPointer .. | .fieldAddr .. | .field .. | .indexAddr .. | .index .. | .extract .. | .build .. | .nilCheck _ | .makeFunc ..=>(some [],some [])
 | .call c=>match c.callee with
   | .builtin b=>
     let rs:=match c.args.toList with
      |[_,x]=>match ev sl x with
       | .sref id ..=>some [id]
       | .slit .. | .sc _=>some []
       |_=>none
      |_=>none
     match b with
     | .len | .min | .max | .cap | .real | .imag | .complex=>(some [],some [])
     | .append=>(rs,match c.args.toList with
       |[s,_]=>match ev sl s with
        | .sref id _ _ _ _ true=>some [id]
        | .sref id _ _ _ _ false=>some [id,id0]
        | .slit .. | .sc _=>some [id0]
        |_=>none
       |_=>none)
     | .copy=>(rs,match c.args.toList with
       |[s,_]=>match ev sl s with
        | .sref id ..=>some [id]
        | .sc _=>some []
        |_=>none
       |_=>none)
     |_=>(none,none)
   |_=>(none,none)
 |_=>(none,none)
def rN(o:Oper):Bool:=
 match o.op with
 | .call {callee:=.value _,.. }=>true
 |_=>false
def sI(mode:Nat)(o:Oper)(sl:Nat->AV):Nat:=
 match o.op with
 | .call c=>match c.callee with
   | .value fv=>match ev sl fv with
     | .clo _ cs=>if mode=3\/mode=4 then 1 else if mode<=1/\(c.args.toList.map (ev sl)++cs).all clean=true then 2 else 0
     |_=>0
   |_=>0
 |_=>0
def vU(a b:List Id):Bool:=a.all λi=>!(b.contains i)
def rB(x y:Option (List Id)×Option (List Id)):Bool:=
 match x,y with
 |(some [],some []),_=>true
 |_,(some [],some [])=>true
 |(some r,some w),(some r',some w')=>vU r w'&&vU r' w&&vU w w'
 |_,_=>false
def quiet:Op->Bool
 | .move _ | .assign _ | .pick .. | .binOp .. | .unOp .. | .convert .. | .sliceToArrayPointer .. | .fieldAddr .. | .field .. | .indexAddr .. | .index .. | .extract .. | .build .. | .nilCheck _ | .makeFunc ..=>true
 | .alloc _ | .box _ _ | .makeSlice .. | .makeMap .. | .buildSlice ..=>true
 | .call c=>match c.callee with
   | .builtin .len | .builtin .min | .builtin .max | .builtin .cap | .builtin .real | .builtin .imag | .builtin .complex=>true
   |_=>false
 |_=>false
def txtC(P:Program)(o:Op):Bool:=
 match o with
 | .convert src dst _=>match P.underlying src,P.underlying dst with
   |some (.slice _),some .string=>true
   |_,_=>false
 |_=>false
def zN(P:Program)(o:Op):Bool:=quiet o&&!(txtC P o)
def late(P:Program)(ops:Array Oper)(i j:Nat):Bool:=
 match ops[i]?,(ops[j]?).bind (·.dst)with
 |some x,some d=>zN P x.op||!(x.looksAt ops).contains d
 |_,_=>true
def wU(mode:Nat)(lim:Option Nat)(id0:Id)(x y:Oper)(sl:Nat->AV):Bool:=
 !(rN y)&&(match qY id0 y sl with
 |(some r,some ws)=>(match lim with|some n=>(r++ws).all (decide <| ·.1<n)|none=>true)&&(sI mode x sl == 2||(sI mode x sl == 1&&ws.isEmpty))
 |_=>false)
def pairOK(pol:Pol)(c:Ctx)(fc next0:Nat)(ops:Array Oper)(i j:Nat)(sl:Nat->AV):Bool:=
 match ops[i]?,ops[j]? with
 |some x,some y=>x.apart ops y&&(xJ (pol c.f (x.dst.getD 0)) x y.op||xJ (pol c.f (y.dst.getD 0)) y x.op ||
  (if rN x then wU (nm (pol c.f (x.dst.getD 0))) (some next0) (c.u,fc+j,y.dst.getD 0) x y sl
   else if rN y then wU (nm (pol c.f (y.dst.getD 0))) none (c.u,fc+i,x.dst.getD 0) y x sl
   else rB (qY (c.u,fc+i,x.dst.getD 0) x sl) (qY (c.u,fc+j,y.dst.getD 0) y sl)))
 |_,_=>false
def l7(P:Program)(pol:Pol)(c:Ctx)(fc next0:Nat)(ops:Array Oper)(sl:Nat->AV):Bool:=
 let b:=xK ops
 (List.range ops.size).all λj=>late P ops j j&&(b.getD j []).all (decide <| · < j)&&(List.range j).all λi=>late P ops i j&&((b.getD j []).contains i||pairOK pol c fc next0 ops i j sl)
def isRf:AV->Bool
 | .sref ..=>true
 |_=>false
def mapLen(P:Program)(o:Oper)(sl:Nat->AV):Bool:=
 match o.op with
 | .call c=>match c.callee with
   | .builtin .len=>match P.underlying (c.argTypes.getD 0 0)with
     |some (.map _ _)=>true
     |_=>false
   | .invoke ..=>true
   |_=>false
 | .convert src dst x=>match P.underlying src,P.underlying dst with
   |some (.slice _),some .string=>isRf (ev sl x)
   |_,_=>false
 |_=>false
def zO(P:Program)(ops:Array Oper)(sl:Nat->AV):Bool:=ops.toList.any λo=>mapLen P o sl
noncomputable def wA(P:Program)(pol:Pol)(call:Hs->FuncId->List AV->St->Option (AV×St))(c:Ctx)(ops:Array Oper)(draw:Bool)(s:S):Option S:=
 match sX P pol call c ops (List.range ops.size) s with
 |some s'=>if draw&&!(!(zO P ops s'.sl)&&l7 P pol c s.fc s.st.next ops s'.sl)then none else some {s' with fc:=s.fc+ops.size}
 |none=>none
def uI(ps:List Tmp)(args:List AV)(sl:Nat->AV):Nat->AV:=
 match ps,args with
 |p::ps,a::as=>uI ps as (upd sl p a)
 |_,_=>sl
def vO:List Nat->Code->Bool
 |_,.ret=>true
 |l,.exit id=>!(l.any (Nat.beq id))
 |l,.seq a b=>vO l a||vO l b
 |l,.cond _ a b=>vO l a||vO l b
 |l,.block id b=>vO (id::l) b
 |l,.loop b=>vO l b
 |l,.rangeFunc _ _ a b=>vO l a||vO l b
 |_,_=>false
def uW(low:Ctx->Code->S->Option (Out×S))(c:Ctx)(id:Id)(params:Array Tmp)(assign body:Code)(sl:Nat->AV):List AV->St->Option St:=λargs st=>
 if args.length=params.size/\params.all (· < c.nt)then
  match low {c with u:=st.next} assign {sl:=uI params.toList args sl,st:={st with next:=st.next+1},fc:=0}with
  |some (.normal,s1)=>match s1.st.objs id with
   |some (.lp none)=>match low {c with u:=st.next} body s1 with
    |some (o,s2)=>match s2.st.objs id with
     |some (.lp none)=>match o with
      | .normal=>some s2.st
      |o=>some {s2.st with objs:=qM s2.st.objs id (some (.lp (some o)))}
     |_=>none
    |none=>none
   |_=>none
  |_=>none
 else none
noncomputable def rS(P:Program)(pol:Pol)(low:Ctx->Code->S->Option (Out×S))(call:Hs->FuncId->List AV->St->Option (AV×St))(c:Ctx):Code->S->Option (Out×S)
 | .skip,s=>some (.normal,s)
 | .region _ ops draw,s=>(wA P pol call c ops draw s).map λs'=>(.normal,s')
 | .seq a b,s=>match rS P pol low call c a s with
   |some (.normal,s')=>rS P pol low call c b s'
   |r=>r
 | .cond x a b,s=>match ev s.sl x with
   | .sc (.bool true)=>rS P pol low call c a s
   | .sc (.bool false)=>rS P pol low call c b s
   |_=>none
 | .block id b,s=>match rS P pol low call c b s with
   |some (.exit id',s')=>if id'=id then some (.normal,s')else some (.exit id',s')
   |r=>r
 | .loop b,s=>match rS P pol low call c b s with
   |some (.normal,s')=>low c (.loop b) s'
   |r=>r
 | .exit id,s=>some (.exit id,s)
 | .ret,s=>some (.ret,s)
 | .rangeFunc f params assign body,s=>match ev s.sl f with
   | .clo g caps=>
     if vO [] body then
      match call (((c.u,s.fc,1),uW low c (c.u,s.fc,1) params assign body s.sl)::c.hs) g (.yld (c.u,s.fc,1)::caps) {s.st with objs:=qM s.st.objs (c.u,s.fc,1) (some (.lp none))}with
      |some (_,st')=>match st'.objs (c.u,s.fc,1)with
       |some (.lp none)=>some (.normal,{s with st:=st',fc:=s.fc+1})
       |some (.lp (some o))=>some (o,{s with st:=st',fc:=s.fc+1})
       |_=>none
      |none=>none
     else
     let h:List AV->St->Option St:=λargs st=>
      if args.length=params.size/\params.all (· < c.nt)then
       let c':={c with u:=st.next}
       let s0:S:={sl:=uI params.toList args s.sl,st:={st with next:=st.next+1},fc:=0}
       match low c' assign s0 with
       |some (.normal,s1)=>match low c' body s1 with
        |some (.normal,s2)=>some s2.st
        |_=>none
       |_=>none
      else none
     match call (((c.u,s.fc,0),h)::c.hs) g (.yld (c.u,s.fc,0)::caps) s.st with
     |some (_,st')=>some (.normal,{s with st:=st',fc:=s.fc+1})
     |none=>none
   |_=>none
 |_,_=>none
def tD:Nat:=1000000
def errP(v:Value):Prop:=∃t x,v=.iface t x
def digF:Nat->Nat->List UInt8
 |0,_=>[]
 |k+1,u=>if u<10 then[UInt8.ofNat (48+u)]else digF k (u / 10)++[UInt8.ofNat (48+u % 10)]
def decM(n:Int):List UInt8:=if n<0 then 45::digF 20 n.natAbs else digF 20 n.toNat
def tells(k:Nat)(args:List AV):Option AV:=
 match k,args with
 |1,[.sc (.int .i64 n)]=>if -9223372036854775808<=n/\n<=9223372036854775807 then some (.sc (.string ⟨(decM n).toArray⟩))else none
 |2,[.sc (.string s)]=>if s.size<=1000000 then match Lib.atoiAll s.data.toList with
  | .ok v=>some (.tup [.sc (.int .i64 v),.sc .nilIface])
  | .range=>some (.tup [.sc (.int .i64 (Lib.atoiSat s.data.toList)),.un errP])
  |_=>some (.tup [.sc (.int .i64 0),.un errP])
  else none
 |_,_=>none
def intsOf:List AV->Option (List Int)
 |[]=>some []
 | .sc (.int .i64 n)::r=>(intsOf r).map λl=>n::l
 |_::_=>none
def tell3(args:List AV)(objs:Id->Option Ob):Option (Id×Ob):=
 match args with
 |[.sref id ver off n z _]=>match objs id with
  |some (.row cs v false)=>if v=ver/\z=1/\0<n/\off+n<=cs.length/\n<4611686018427387904 then
   (intsOf ((cs.drop off).take n)).map λl=>(id,.row (rK cs off ((l.mergeSort λx y=>decide (x<=y)).map λx=>.sc (.int .i64 x))) v false)
   else none
  |_=>none
 |_=>none
def M8(s:Int×Int×Int)(x:Int×Int):Int×Int×Int:=if s.2.1<x.2\/(x.2=s.2.1/\x.1<s.1)then(x.1,x.2,s.2.2+x.2)else(s.1,s.2.1,s.2.2+x.2)
def cntsOf:List (Value×AV)->Option (List (Int×Int))
 |[]=>some []
 |(.int .i64 n,.sc (.int .i64 c))::r=>(cntsOf r).map λl=>(n,c)::l
 |_::_=>none
def strsOf:List AV->Option (List ByteArray)
 |[]=>some []
 | .sc (.string s)::r=>(strsOf r).map λl=>s::l
 |_::_=>none
def joinM(sep:List UInt8):List (List UInt8)->List UInt8
 |[]=>[]
 |[x]=>x
 |x::r=>x++(sep++joinM sep r)
def tell4(objs:Id->Option Ob):List AV->Option AV
 |[.mp id]=>match objs id with
  |some (.map es)=>match cntsOf es with
   |some l=>if(l.all λx=>decide (0<=x.2/\x.2<=4294967296))=true/\l.length<=1048576 then some (.tup [.sc (.int .i64 (l.foldl M8 (0,0,0)).1),.sc (.int .i64 ((l.foldl M8 (0,0,0)).2.2-(l.foldl M8 (0,0,0)).2.1))])else none
   |none=>none
  |_=>none
 |_=>none
def tell5(objs:Id->Option Ob):List AV->Option AV
 |[a,.sc (.string sep)]=>match elems objs 1 a with
  |some (cs,n)=>match strsOf cs with
   |some l=>if(joinM sep.data.toList (l.map (·.data.toList))).length<=1099511627776/\n<=1099511627776 then some (.sc (.string ⟨(joinM sep.data.toList (l.map (·.data.toList))).toArray⟩))else none
   |none=>none
  |none=>none
 |_=>none
def tell6(t e:TypeId)(objs:Id->Option Ob):List AV->Option AV
 |[.ptr id 0 0]=>match objs id with
  |some (.bld t' e' l)=>if t'=t/\e'=e/\l.length<=1099511627776 then some (.sc (.string ⟨l.toArray⟩))else none
  |_=>none
 |_=>none
def tell7(t e:TypeId)(objs:Id->Option Ob):List AV->Option (AV×Id×Ob)
 |[.ptr id 0 0,.sc (.string s)]=>match objs id with
  |some (.bld t' e' l)=>if t'=t/\e'=e/\l.length+s.size<=1099511627776 then some (.tup [.sc (.int .i64 s.size),.sc .nilIface],id,.bld t e (l++s.data.toList))else none
  |_=>none
 |_=>none
def tellR(k:Nat)(args:List AV)(objs:Id->Option Ob):Option AV:=bif Nat.beq k 4 then tell4 objs args else tell5 objs args
def tellB(k:Nat)(args:List AV)(st:St):Option (AV×St):=
 bif Nat.beq k 3 then(tell3 args st.objs).map λp=>(.tup [],{st with objs:=qM st.objs p.1 (some p.2)})else bif Nat.ble 16 k then(bif Nat.beq (k % 2) 0 then(tell6 (k / 2000) (k / 2 % 1000) st.objs args).map λv=>(v,{st with objs:=λ_=>none})else(tell7 (k / 2000) (k / 2 % 1000) st.objs args).map λp=>(p.1,{st with objs:=qM st.objs p.2.1 (some p.2.2)}))else bif Nat.ble 4 k then(tellR k args st.objs).map λv=>(v,st)else(tells k args).map λv=>(v,st)
def wB(P:Program)(rs:List ResultVar)(s:S):Option (List AV):=
 match rs with
 |[]=>some []
 | .tmp t::r=>match wB P r s with
   |some l=>some (s.sl t::l)
   |none=>none
 | .cell a t::r=>match ty P t,s.sl a with
   |some (g,z),.ptr id ver off=>match s.st.objs id with
    |some (.row cs v _)=>if v=ver then match rd g z (cs.drop off),wB P r s with
     |some v,some l=>some (v::l)
     |_,_=>none
     else none
    |_=>none
   |_,_=>none
def vF(args:List AV):Nat->AV:=λt=>args.getD t (.sc undef)
noncomputable def wV(P:Program)(pol:Pol)(code:Ctx->Code->S->Option (Out×S))(hs:Hs)(f:FuncId)(args:List AV)(st:St):Option (AV×St):=
 if pol f tD≠0 then tellB (pol f tD) args st else
 match P.funcs[f]? with
 |some fn=>match fn.body with
  |some body=>if fn.name≠"runtime.NumGoroutine"/\args.length<=fn.ntmps then
   match code {f:=f,u:=st.next,nt:=fn.ntmps,hs:=hs} body {sl:=vF args,st:={st with next:=st.next+1},fc:=0}with
   |some (.exit _,_)=>none
   |some (_,s')=>match wB P fn.results.toList s' with
    |some [v]=>some (v,s'.st)
    |some l=>some (.tup l,s'.st)
    |none=>none
   |none=>none
   else none
  |none=>(sExtn P f args).map λv=>(v,st)
 |none=>none
noncomputable def ix(P:Program)(pol:Pol):Nat->Ctx->Code->S->Option (Out×S)
 |0=>λ_ _ _=>none
 |n+1=>rS P pol (ix P pol n) (wV P pol (ix P pol n))
noncomputable def rV(P:Program)(pol:Pol)(n:Nat):Hs->FuncId->List AV->St->Option (AV×St):=wV P pol (ix P pol n)
def HLe:Hs->Hs->Prop
 |[],[]=>True
 |(i,h)::r,(j,g)::q=>i=j/\(∀args st st',h args st=some st'->g args st=some st')/\HLe r q
 |_,_=>False
theorem HLe.refl:∀hs:Hs,HLe hs hs
 |[]=>trivial
 |(_,_)::r=>⟨rfl,λ_ _ _ h=>h,HLe.refl r⟩
def zP(call call':Hs->FuncId->List AV->St->Option (AV×St)):Prop:=∀hs hs' f args st r,HLe hs hs'->call hs f args st=some r->call' hs' f args st=some r
def G9(low low':Ctx->Code->S->Option (Out×S)):Prop:=∀(c:Ctx) hs' code s r,HLe c.hs hs'->low c code s=some r->low' {c with hs:=hs' } code s=some r
section
variable{P:Program}{pol:Pol}{call call':Hs->FuncId->List AV->St->Option (AV×St)}{low low':Ctx->Code->S->Option (Out×S)}
theorem M9:∀{hs hs':Hs} {id:Id} {h:List AV->St->Option St},HLe hs hs'->vN hs id=some h->∃g,vN hs' id=some g/\∀args st st',h args st=some st'->g args st=some st'
 |[],[],_,_,_,e=>by simp[vN]at e
 |(i,h0)::r,(j,g0)::q,id,h,hle,e=>by
  obtain⟨rfl,h1,h2⟩:=hle;simp only[vN]at e ⊢;split at e
  .rename_i hi;cases e;rw[xc2 hi];exact⟨g0,rfl,h1⟩
  .rename_i hi;rw[xc1 hi];exact M9 h2 e
 |[],_::_,_,_,h,_=>h.elim
 |_::_,[],_,_,h,_=>h.elim
theorem x4a(hc:zP call call'){hs hs':Hs}(hh:HLe hs hs'){mode:Nat}{fv:AV}{args:List AV}{st:St}{r:AV×St}(h:rZ call hs mode fv args st=some r):rZ call' hs' mode fv args st=some r:=by
 cases fv with
 |clo f caps=>
  simp only[rZ]at h ⊢;split at h
  .split at h
   .split at h
    .rename_i e;simp only[hc _ _ _ _ _ _ (HLe.refl []) e];exact h
    .cases h
   .cases h
  .split at h
   .split at h
    .rename_i e;simp only[hc _ _ _ _ _ _ (HLe.refl []) e];exact h
    .cases h
   .cases h
  .split at h
   .split at h
    .rename_i e;simp only[hc _ _ _ _ _ _ (HLe.refl []) e];exact h
    .cases h
   .cases h
  .split at h
   .rename_i hcl;rw[xc2 hcl];split at h
    .rename_i e;simp only[hc _ _ _ _ _ _ (HLe.refl []) e];exact h
    .cases h
   .cases h
  .exact hc _ _ _ _ _ _ hh h
 |yld id=>
  simp only[rZ]at h ⊢;split at h
  .rename_i g hg;obtain⟨g',e1,e2⟩:=M9 hh hg;simp only[xc5]at h;obtain⟨st',h1,h2⟩:=h;simp only[e1,e2 _ _ _ h1,Option.map_some,h2]
  .cases h
 |_=>simp[rZ]at h
theorem inv9_le(hc:zP call call'){hs hs':Hs}(hh:HLe hs hs'){u fc mode:Nat}{fv:AV}{args:List AV}{st:St}{r:AV×St}(h:tZ call u fc hs mode fv args st=some r):tZ call' u fc hs' mode fv args st=some r:=by
 unfold tZ at h ⊢;split at h
 .rename_i hm;rw[xc2 hm];split at h
  .split at h
   .rename_i e;simp only[hc _ _ _ _ _ _ (HLe.refl _) e];exact h
   .cases h
  .cases h
 .rename_i hm;rw[xc1 hm];exact x4a hc hh h
theorem step_le(hc:zP call call'){c:Ctx}{hs':Hs}(hh:HLe c.hs hs'){ops:Array Oper}{i:Nat}{s s':S}(h:tB P pol call c ops i s=some s'):tB P pol call' {c with hs:=hs' } ops i s=some s':=by
 unfold tB at h ⊢;split at h
 .exact h
 .split at h
  .rename_i hw;rw[xc2 hw];split at h
   .split at h
    .rename_i e;simp only[inv9_le hc hh e];exact h
    .cases h
   .split at h
    .rename_i hm;simp only[hm];split at h
     .rename_i e;simp only[x4a hc hh e];exact h
     .cases h
    .cases h
   .exact h
  .rename_i hw;rw[xc1 hw];exact h
theorem N0(hc:zP call call'){c:Ctx}{hs':Hs}(hh:HLe c.hs hs'){ops:Array Oper}:∀{L:List Nat} {s s':S},sX P pol call c ops L s=some s'->sX P pol call' {c with hs:=hs' } ops L s=some s'
 |[],_,_,h=>h
 |i::L,s,s',h=>by
  simp only[sX]at h ⊢;split at h
  .rename_i e;simp only[step_le hc hh e];exact N0 hc hh h
  .cases h
theorem x4b(hc:zP call call'){c:Ctx}{hs':Hs}(hh:HLe c.hs hs'){ops:Array Oper}{draw:Bool}{s s':S}(h:wA P pol call c ops draw s=some s'):wA P pol call' {c with hs:=hs' } ops draw s=some s':=by
 unfold wA at h ⊢;split at h
 .rename_i e;simp only[N0 hc hh e];exact h
 .cases h
theorem x4c(hl:G9 low low'){c:Ctx}{hs':Hs}(hh:HLe c.hs hs'){id:Id}{ps:Array Tmp}{a b:Code}{sl:Nat->AV}{args:List AV}{st st2:St}(h:uW low c id ps a b sl args st=some st2):uW low' {c with hs:=hs' } id ps a b sl args st=some st2:=by
 unfold uW at h ⊢;split at h
 .rename_i hcond;rw[xc2 hcond];split at h
  .rename_i s1 e1;have q1:=hl {c with u:=st.next} hs' _ _ _ hh e1;simp only at q1 ⊢;rw[q1];simp only
   split at h
   .split at h
    .rename_i o s2 e2;have q2:=hl {c with u:=st.next} hs' _ _ _ hh e2;simp only at q2;rw[q2];exact h
    .cases h
   .cases h
  .cases h
 .cases h
theorem xL(hc:zP call call')(hl:G9 low low'):∀(code:Code) {c:Ctx} {hs':Hs} {s:S} {r:Out×S},HLe c.hs hs'->rS P pol low call c code s=some r->rS P pol low' call' {c with hs:=hs' } code s=some r
 | .skip,_,_,_,_,_,h=>h
 | .region id ops draw,c,hs',s,r,hh,h=>by simp only[rS,xc5]at h ⊢;obtain⟨s',h1,h2⟩:=h;exact⟨s',x4b hc hh h1,h2⟩
 | .seq a b,c,hs',s,r,hh,h=>by
   simp only[rS]at h ⊢;split at h
   .rename_i e;simp only[xL hc hl a hh e];exact xL hc hl b hh h
   .rename_i hn;rw[xL hc hl a hh h];obtain⟨o,s'⟩:=r;cases o with
    |normal=>exact absurd h (hn s')
    |_=>rfl
 | .cond x a b,c,hs',s,r,hh,h=>by
   simp only[rS]at h ⊢;split at h
   .exact xL hc hl a hh h
   .exact xL hc hl b hh h
   .cases h
 | .block id b,c,hs',s,r,hh,h=>by
   simp only[rS]at h ⊢;split at h
   .rename_i e;simp only[xL hc hl b hh e];exact h
   .rename_i hn;rw[xL hc hl b hh h];obtain⟨o,s'⟩:=r;cases o with
    |exit id'=>exact absurd h (hn id' s')
    |_=>rfl
 | .loop b,c,hs',s,r,hh,h=>by
   simp only[rS]at h ⊢;split at h
   .rename_i e;simp only[xL hc hl b hh e];exact hl _ _ _ _ _ hh h
   .rename_i hn;rw[xL hc hl b hh h];obtain⟨o,s'⟩:=r;cases o with
    |normal=>exact absurd h (hn s')
    |_=>rfl
 | .exit _,_,_,_,_,_,h=>h
 | .ret,_,_,_,_,_,h=>h
 | .rangeFunc f params assign body,c,hs',s,r,hh,h=>by
   simp only[rS]at h ⊢;split at h
   .rename_i g caps e;split at h
    .rename_i hlp;rw[xc2 hlp];split at h
     .rename_i r0 st' hcall;have:=hc _ _ _ _ _ _ (show HLe (((c.u,s.fc,1),uW low c (c.u,s.fc,1) params assign body s.sl)::c.hs) (((c.u,s.fc,1),uW low' {c with hs:=hs' } (c.u,s.fc,1) params assign body s.sl)::hs')from⟨rfl,λargs st st2 h2=>x4c hl hh h2,hh⟩) hcall;simp only[this];exact h
     .cases h
    .rename_i hlp;rw[xc1 hlp];split at h
     .rename_i r0 st' hcall
      have key:=λ(hle:HLe _ ((((c.u,s.fc,0):Id),λargs st=>
       if args.length=params.size/\params.all (· < c.nt)then
        match low' {c with hs:=hs',u:=st.next} assign {sl:=uI params.toList args s.sl,st:={st with next:=st.next+1},fc:=0}with
        |some (.normal,s1)=>match low' {c with hs:=hs',u:=st.next} body s1 with
         |some (.normal,s2)=>some s2.st
         |_=>none
        |_=>none
       else none)::hs'))=>hc _ _ _ _ _ _ hle hcall
      have:=key ⟨rfl,λargs st st2 h2=>(by
       simp only at h2 ⊢
       split at h2
       .rename_i hcond
        rw[xc2 hcond]
        split at h2
        .rename_i s1 e1
         have q1:=hl {c with u:=st.next} hs' _ _ _ hh e1
         simp only at q1 ⊢
         rw[q1]
         simp only
         split at h2
         .rename_i s2 e2
          have q2:=hl {c with u:=st.next} hs' _ _ _ hh e2
          simp only at q2
          rw[q2]
          exact h2
         .cases h2
        .cases h2
       .cases h2),hh⟩
      split
      .rename_i r1 st1 e2;have e3:=this.symm.trans e2;cases e3;exact h
      .rename_i e2;exact absurd (this.symm.trans e2) (by simp)
     .cases h
   .cases h
 | .scope _,_,_,_,_,_,h=>by simp[rS]at h
 | .goto _,_,_,_,_,_,h=>by simp[rS]at h
 | .label _,_,_,_,_,_,h=>by simp[rS]at h
 | .refuse _,_,_,_,_,_,h=>by simp[rS]at h
theorem body_le{code code':Ctx->Code->S->Option (Out×S)}(hl:G9 code code'):zP (wV P pol code) (wV P pol code'):=by
 intro hs hs' f args st r hh h;unfold wV at h ⊢;split at h
 .rename_i ht;rw[xc2 ht];exact h
 rename_i ht;rw[xc1 ht];split at h
 .split at h
  .split at h
   .rename_i hcond;rw[xc2 hcond];split at h
    .cases h
    .rename_i o s' hne e;have q:=hl _ hs' _ _ _ hh e;simp only at q;rw[q];cases o with
     |exit id=>exact absurd rfl (hne id)
     |_=>exact h
    .cases h
   .cases h
  .exact h
 .cases h
theorem wC:∀{n m:Nat},n<=m->G9 (ix P pol n) (ix P pol m)
 |0,_,_=>λ_ _ _ _ _ _ h=>by simp[ix]at h
 |n+1,0,h=>by omega
 |n+1,m+1,h=>λc hs' code s r hh e=>xL (body_le (wC (by omega:n<=m))) (wC (by omega:n<=m)) code hh e
end
end Go.Ix
