import GoSem.Step
import Derived.Laws.Sem
import Derived.Orders
set_option linter.unusedSimpArgs false
set_option linter.unusedVariables false
namespace Go.Ix
abbrev xhk:=@if_pos
abbrev xhl:=@if_neg
abbrev xhm:=@Prod.mk.injEq
abbrev xhn:=@Option.some.injEq
abbrev xho:=@Bool.and_eq_true
abbrev xhp:=@Option.map_eq_some_iff
abbrev xhq:=@List.all_eq_true
abbrev xhr:=@List.mem_cons_of_mem
abbrev xhs:=@List.mem_cons_self
abbrev xht:=@Nat.le_refl
abbrev xhu:=@List.mem_cons
abbrev xhv:=@Nat.eq_of_beq_eq_true
abbrev xhw:=@List.map_cons
abbrev xhx:=@Array.getElem?_eq_getElem
abbrev xhy:=@if_false
abbrev xhz:=@List.length_cons
abbrev xi0:=@Nat.lt_of_lt_of_le
abbrev xi1:=@List.getElem?_eq_getElem
abbrev xi2:=@List.getElem?_eq_some_iff
abbrev xi3:=@List.mem_range
abbrev xi4:=@List.mem_filter
abbrev xi5:=@List.take_of_length_le
abbrev xi6:=@decide_eq_true
abbrev xi7:=@List.getD_eq_getElem?_getD
abbrev xi8:=@List.mem_of_getElem?
abbrev xi9:=@List.map_nil
abbrev xia:=@Bool.eq_false_iff
abbrev xib:=@Nat.lt_or_ge
abbrev xic:=@Bool.false_eq_true
abbrev xid:=@List.mem_map
abbrev xie:=@List.drop_zero
abbrev xif:=@Nat.le_trans
abbrev xig:=@if_true
abbrev xih:=@List.getElem_mem
abbrev xii:=@Array.getD_eq_getD_getElem?
abbrev xij:=@List.mem_append
abbrev xik:=@Option.bind_eq_some_iff
abbrev xil:=@Array.getElem?_setIfInBounds_ne
abbrev xim:=@Bool.or_eq_true
abbrev xin:=@Nat.add_assoc
abbrev xio:=@Nat.mul_le_mul_right
abbrev xip:=@Nat.succ_mul
abbrev xiq:=@List.getElem?_drop
abbrev xir:=@List.mem_flatMap
abbrev xis:=@Nat.le_of_ble_eq_true
abbrev xit:=@decide_true
abbrev xiu:=@Nat.add_mul
abbrev xiv:=@Nat.zero_add
abbrev xiw:=@List.length_append
abbrev xix:=@List.getElem?_take
abbrev xiy:=@Array.length_toList
abbrev xiz:=@List.mapM_cons
abbrev xj0:=@Nat.mod_lt
abbrev xj1:=@Bool.not_false
abbrev xj2:=@Bool.true_and
abbrev xj3:=@of_decide_eq_true
abbrev xj4:=@List.flatMap_cons
abbrev xj5:=@Array.getElem?_eq_none
abbrev xj6:=@Option.some.inj
abbrev xj7:=@Nat.add_zero
abbrev xj8:=@List.length_nil
abbrev xj9:=@Array.getElem?_push_lt
abbrev xja:=@Nat.zero_mul
abbrev xjb:=@List.getElem?_append_left
abbrev xjc:=@List.getElem?_append_right
abbrev xjd:=@List.nodup_cons
abbrev xje:=@List.flatMap_eq_nil_iff
abbrev xjf:=@List.cons_append
abbrev xjg:=@List.mem_append_left
abbrev xjh:=@List.nodup_append
abbrev xji:=@Array.size_eq_one_iff
abbrev xjj:=@Nat.lt_succ_self
abbrev xjk:=@Array.getElem?_setIfInBounds_self_of_lt
abbrev xjl:=@Nat.le_succ
abbrev xjm:=@List.cons.injEq
abbrev xjn:=@List.pairwise_cons
abbrev xjo:=@List.drop_eq_nil_iff
abbrev xjp:=@Array.getElem?_eq_some_iff
abbrev xjq:=@Array.ext_getElem?
abbrev xjr:=@List.getElem?_append
abbrev xjs:=@List.length_map
abbrev xjt:=@List.reverse_cons
abbrev xju:=@List.mem_iff_getElem?
abbrev xjv:=@List.foldl_cons
abbrev xjw:=@decide_eq_true_eq
abbrev xjx:=@List.take_take
abbrev xjy:=@List.getElem?_cons_zero
abbrev xjz:=@List.getElem?_cons_succ
abbrev xk0:=@Array.getElem?_append_left
abbrev xk1:=@Nat.zero_le
abbrev xk2:=@List.all_cons
abbrev xk3:=@Option.bind_some
abbrev xk4:=@List.nodup_range
abbrev xk5:=@Array.all_eq_true_iff_forall_mem
abbrev xk6:=@Bool.not_eq_true'
abbrev xk7:=@List.filter_eq_self
abbrev xk8:=@List.drop_of_length_le
abbrev xk9:=@List.nil_append
abbrev xka:=@List.map_append
abbrev xkb:=@List.mem_iff_getElem
abbrev xkc:=@Array.getElem?_modify
abbrev xkd:=@Array.getElem?_setIfInBounds
abbrev xke:=@Array.size_setIfInBounds
abbrev xkf:=@Array.foldl_toList
abbrev xkg:=@List.getElem?_map
abbrev xkh:=@Array.mem_of_getElem?
abbrev xki:=@Array.getElem?_append
abbrev xkj:=@List.take_length
abbrev xkk:=@List.getElem?_eq_none
abbrev xkl:=@Array.getElem?_append_right
abbrev xkm:=@Array.getElem?_replicate
abbrev xkn:=@List.map_congr_left
abbrev xko:=@List.mem_singleton
abbrev xkp:=@List.length_eq_zero_iff
abbrev xkq:=@List.filter_append
abbrev xkr:=@List.take_append_of_le_length
abbrev xks:=@List.drop_append
abbrev xkt:=@Bool.not_eq_true
abbrev xku:=@List.range_succ
abbrev xkv:=@Int.mul_eq_zero
abbrev xkw:=@Int.mul_le_mul_of_nonneg_right
abbrev xkx:=@Int.emod_nonneg
abbrev xky:=@Int.emod_lt_of_pos
abbrev xkz:=@List.mem_of_mem_take
abbrev xl0:=@decide_eq_true_iff
abbrev xl1:=@Array.mapM_eq_mapM_toList
abbrev xl2:=@List.set_eq_take_append_cons_drop
abbrev xl3:=@List.take_succ_eq_append_getElem
abbrev Id:=Nat×Nat×Nat
inductive AV where
 |sc (v:Value)
 |agg (cs:List AV)
 |tup (vs:List AV)
 |slit (cs:List AV) (n:Nat) (ex:Bool)
 |plit (cs:List AV)
 |sref (id:Id) (ver off n z:Nat) (full:Bool)
 |ptr (id:Id) (ver off:Nat)
 |clo (f:FuncId) (caps:List AV)
 |yld (id:Id)
 |mp (id:Id)
instance:Inhabited AV:=⟨.sc undef⟩
inductive Out where
 |normal
 |exit (id:Nat)
 |ret
inductive Ob where
 |row (cs:List AV) (ver:Nat) (frz:Bool)
 |map (es:List (Value×AV))
 |lp (d:Option Out)
structure St where
 objs:Id->Option Ob
 next:Nat
structure S where
 sl:Nat->AV
 st:St
 fc:Nat
def upd{α:Type}(f:Nat->α)(i:Nat)(v:α):Nat->α:=λj=>if j=i then v else f j
def updo(f:Id->Option Ob)(i:Id)(v:Option Ob):Id->Option Ob:=λj=>if j=i then v else f j
def x5b(P:Program){α:Type}:Sem α->Option α
 | .pure a=>some a
 | .program k=>x5b P (k P)
 | .mark _ k=>x5b P k
 |_=>none
def scs:List AV->Option (List Value)
 |[]=>some []
 | .sc v::r=>match scs r with
   |some l=>some (v::l)
   |none=>none
 |_=>none
def x5k:AV->Option Value
 | .sc v=>some v
 | .agg cs=>match scs cs with
   |some l=>some (.agg l.toArray)
   |none=>none
 | .clo f []=>some (.func (.func f) #[] #[])
 |_=>none
def x5j:Value->AV
 | .agg cs=>.agg (cs.toList.map .sc)
 | .tuple vs=>.tup (vs.toList.map .sc)
 |v=>.sc v
def AV.cells:AV->List AV
 | .sc v=>v.cells.toList.map .sc
 | .agg cs=>cs
 |a=>[a]
def AV.one:AV->Bool
 | .sc v=>v.oneCell'
 | .agg _ | .tup _=>false
 |_=>true
def clean1:AV->Bool
 | .sc _ | .slit .. | .plit _=>true
 | .clo _ cs=>cs.all fun | .sc _ | .slit ..=>true|_=>false
 |_=>false
def clean:AV->Bool
 | .agg cs=>cs.all clean1
 |a=>clean1 a
def ev(sl:Nat->AV):Operand->AV
 | .tmp t=>sl t
 | .const v=>x5j v
 | .global g=>.sc (.pointer (some ⟨g,0,none⟩))
 | .func f=>.clo f []
def ty(P:Program)(t:TypeId):Option (Bool×Nat):=
 match P.underlying t,P.info? t with
 |some (.struct _),some i=>some (true,i.size)
 |some (.array _ _),some i=>some (true,i.size)
 |some _,some i=>some (false,i.size)
 |_,_=>none
def rd(g:Bool)(z:Nat)(cs:List AV):Option AV:=
 if g then(if z<=cs.length then some (.agg (cs.take z))else none)else cs.head?
def x5o(cs:List AV)(off:Nat)(vs:List AV):List AV:=cs.take off++(vs++cs.drop (off+vs.length))
def asI:AV->Option Int
 | .sc (.int _ n)=>some n
 |_=>none
def elems(objs:Id->Option Ob)(z:Nat):AV->Option (List AV×Nat)
 | .sc (.slice none 0 _)=>some ([],0)
 | .slit cs n _=>if n*z<=cs.length then some (cs.take (n*z),n)else none
 | .sref id ver off n z' _=>match objs id with
   |some (.row cs v _)=>if v=ver/\z'=z/\off+n*z<=cs.length then some ((cs.drop off).take (n*z),n)else none
   |_=>none
 |_=>none
def x6q(place:Nat->Option (Nat×Nat))(cs:List AV):List (Nat×AV)->Option (List AV)
 |[]=>some cs
 |(i,v)::rest=>match place i with
  |some (off,size)=>if v.cells.length=size/\off+size<=cs.length then x6q place (x5o cs off v.cells) rest else none
  |none=>none
def fieldsOf(P:Program)(fs:Array Field):Option (List (Nat×Nat)):=
 fs.toList.mapM λf=>(P.info? f.type).map λi=>(f.offset,i.size)
def zeroCells(P:Program)(t:TypeId):Option (List AV):=
 match P.info? t with
 |some i=>match i.zero with
  |some v=>if v.cells.toList.all Value.oneCell' then some (v.cells.toList.map .sc)else none
  |none=>none
 |none=>none
def x5y(z:List AV)(n:Nat):List AV:=(List.range n).map λi=>z.getD (i % z.length) (.sc undef)
def x5h(n bytes:Nat):Prop:=(2*n+1000)*bytes<=2 ^ 47/\n<=2 ^ 47
instance (n bytes:Nat):Decidable (x5h n bytes):=by unfold x5h;infer_instance
def x7p(P:Program)(id0:Id)(objs:Id->Option Ob)(argTypes:Array TypeId)(args:List AV):Option (AV×(Id->Option Ob)):=
 match argTypes.toList,args with
 |[t,t'],[s,x]=>match P.underlying t,P.underlying t' with
  |some (.slice e),some d=>match P.info? e,zeroCells P e with
   |some i,some zc=>if zc.length=i.size/\0<i.size then
    let src:=match d with
     | .int _=>match asI x with
       |some n=>if 0<=n/\n<=2 ^ 40/\n*i.bytes<=2 ^ 47 then some (x5y zc (n.toNat*i.size),n.toNat)else none
       |none=>none
     |_=>elems objs i.size x
    match src with
    |some (src,m)=>match s with
     | .sc (.slice none 0 0)=>if m=0 then some (s,objs)else if x5h m i.bytes then some (.sref id0 0 0 m i.size true,updo objs id0 (some (.row src 0 false)))else none
     | .slit cs n true=>if n*i.size<=cs.length then(if m=0 then some (s,objs)else if x5h (n+m) i.bytes then some (.sref id0 0 0 (n+m) i.size true,updo objs id0 (some (.row (cs.take (n*i.size)++src) 0 false)))else none)else none
     | .sref id ver off n z true=>match objs id with
       |some (.row cs v false)=>if v=ver/\z=i.size/\off+n*z<=cs.length/\x5h (n+m) i.bytes then
        if m=0 then some (s,objs)
        else if off+(n+m)*z<=cs.length then some (.sref id ver off (n+m) z true,updo objs id (some (.row (x5o cs (off+n*z) src) v false)))
        else some (.sref id (ver+1) 0 (n+m) z true,updo objs id (some (.row ((cs.drop off).take (n*z)++src) (v+1) false)))
        else none
       |_=>none
     | .sref id ver off n z false=>match objs id with
       |some (.row cs v _)=>if v=ver/\z=i.size/\off+n*z<=cs.length/\x5h (n+m) i.bytes then
        if m=0 then some (s,objs)
        else some (.sref id0 0 0 (n+m) i.size true,updo objs id0 (some (.row ((cs.drop off).take (n*z)++src) 0 false)))
        else none
       |_=>none
     |_=>none
    |none=>none
    else none
   |_,_=>none
  |_,_=>none
 |_,_=>none
def x7z(P:Program)(objs:Id->Option Ob)(argTypes:Array TypeId)(args:List AV):Option (AV×(Id->Option Ob)):=
 match argTypes.toList,args with
 |t::_,[s,x]=>match P.underlying t with
  |some (.slice e)=>match P.info? e with
   |some i=>match elems objs i.size x with
    |some (src,m)=>match s with
     | .sref id ver off n z _=>match objs id with
       |some (.row cs v false)=>if v=ver/\z=i.size/\off+n*z<=cs.length then
        let k:=Nat.min m n
        some (.sc (.int .i64 k),updo objs id (some (.row (x5o cs off (src.take (k*z))) v false)))
        else none
       |_=>none
     | .sc (.slice none 0 0)=>some (.sc (.int .i64 0),objs)
     |_=>none
    |none=>none
   |none=>none
  |_=>none
 |_,_=>none
def x5i(l:List AV):Option (List Value):=
 match l with
 |[]=>some []
 |a::r=>match x5k a,x5i r with
  |some v,some vs=>some (v::vs)
  |_,_=>none
def x5p(P:Program)(id0:Id)(objs:Id->Option Ob)(b:Builtin)(argTypes:Array TypeId)(type:TypeId)(args:List AV):Option (AV×(Id->Option Ob)):=
 match b with
 | .append=>x7p P id0 objs argTypes args
 | .copy=>x7z P objs argTypes args
 | .len=>match args with
   |[.slit _ n _]=>match P.underlying (argTypes.getD 0 0)with
    |some (.slice _)=>if argTypes.size=1 then some (.sc (.int .i64 n),objs)else none
    |_=>none
   |[.sref _ _ _ n _ _]=>match P.underlying (argTypes.getD 0 0)with
    |some (.slice _)=>if argTypes.size=1 then some (.sc (.int .i64 n),objs)else none
    |_=>none
   |[.mp id]=>match objs id with
    |some (.map es)=>match P.underlying (argTypes.getD 0 0)with
     |some (.map _ _)=>if argTypes.size=1 then some (.sc (.int .i64 es.length),objs)else none
     |_=>none
    |_=>none
   |_=>match x5i args with
    |some vs=>(x5b P (Builtin.len_ argTypes type vs.toArray)).map λv=>(x5j v,objs)
    |none=>none
 | .cap=>match x5i args with
   |some vs=>(x5b P (Builtin.cap_ argTypes type vs.toArray)).map λv=>(x5j v,objs)
   |none=>none
 | .max=>match x5i args with
   |some vs=>(x5b P (Builtin.max_ argTypes type vs.toArray)).map λv=>(x5j v,objs)
   |none=>none
 | .min=>match x5i args with
   |some vs=>(x5b P (Builtin.min_ argTypes type vs.toArray)).map λv=>(x5j v,objs)
   |none=>none
 | .real=>match x5i args with
   |some vs=>(x5b P (Builtin.real_ argTypes type vs.toArray)).map λv=>(x5j v,objs)
   |none=>none
 | .imag=>match x5i args with
   |some vs=>(x5b P (Builtin.imag_ argTypes type vs.toArray)).map λv=>(x5j v,objs)
   |none=>none
 | .complex=>match x5i args with
   |some vs=>(x5b P (Builtin.complex_ argTypes type vs.toArray)).map λv=>(x5j v,objs)
   |none=>none
 |_=>none
def x8v:List Value->List Value->Bool
 |[],[]=>true
 | .int k a::r,.int k' b::r'=>(k == k'&&a == b)&&x8v r r'
 |_,_=>false
def x69:Value->Value->Bool
 | .int k a,.int k' b=>k == k'&&a == b
 | .string a,.string b=>a == b
 | .bool a,.bool b=>a == b
 | .agg a,.agg b=>x8v a.toList b.toList
 |_,_=>false
def findKey(k:Value):List (Value×AV)->Option AV
 |[]=>none
 |(k',v)::r=>if x69 k k' then some v else findKey k r
def setKey(k:Value)(v:AV):List (Value×AV)->List (Value×AV)
 |[]=>[(k,v)]
 |(k',v')::r=>if x69 k k' then(k,v)::r else(k',v')::setKey k v r
def x7b(d:TypeDesc)(k:Value)(es:List (Value×AV)):Bool:=
 match d with
 | .int kd=>(k::es.map (·.1)).all fun | .int k' _=>k' == kd|_=>false
 | .string=>(k::es.map (·.1)).all fun | .string _=>true|_=>false
 | .bool=>(k::es.map (·.1)).all fun | .bool _=>true|_=>false
 |_=>false
def xd6(P:Program)(kt:TypeId)(d:TypeDesc)(k:Value)(es:List (Value×AV)):Bool:=
 match d,k with
 | .struct _,.agg _=>x69 k k&&((x5b P (Instr.checkKey true 10000 kt k)).isSome&&(x5b P (Instr.checkKey false 10000 kt k)).isSome) &&
  es.all λe=>match e.1,x5b P (Op.equal kt k e.1)with
   | .agg _,some b=>b == x69 k e.1
   |_,_=>false
 |_,_=>false
def x8w(P:Program)(kt:TypeId)(d:TypeDesc)(k:Value)(es:List (Value×AV)):Bool:=x7b d k es||xd6 P kt d k es
def xac(P:Program)(src dst:TypeId)(a:Value):Option (List AV):=
 match a with
 | .string s=>match P.underlying src,P.underlying dst with
   |some _,some (.slice e)=>match P.underlying e with
    |some (.int .u8)=>some (s.data.toList.map λb=>.sc (.int .u8 b.toNat))
    |_=>none
   |_,_=>none
 |_=>none
def xbk(P:Program)(t:TypeId):Option AV:=
 match P.info? t with
 |some i=>match i.zero with
  |some v=>some (x5j v)
  |none=>none
 |none=>none
def x8x(objs:Id->Option Ob):AV->Option (List (Value×AV))
 | .mp id=>match objs id with
   |some (.map es)=>some es
   |_=>none
 | .sc (.map none)=>some []
 |_=>none
def ixOp(P:Program)(id0:Id)(o:Oper)(sl:Nat->AV)(objs:Id->Option Ob):Option (AV×(Id->Option Ob)):=
 let e:=ev sl
 match o.op with
 | .move x | .assign x=>some (e x,objs)
 | .pick c a b=>match e c with
   | .sc (.bool t)=>some (if t then e a else e b,objs)
   |_=>none
 | .alloc t=>match zeroCells P t with
   |some cs=>some (.ptr id0 0 0,updo objs id0 (some (.row cs 0 false)))
   |none=>none
 | .box _ x=>if(e x).cells.all AV.one then some (.ptr id0 0 0,updo objs id0 (some (.row (e x).cells 0 false)))else none
 | .build t parts=>match P.underlying t,zeroCells P t with
   |some (.struct fs),some z=>match fieldsOf P fs with
    |some pl=>(x6q (pl[·]?) z (parts.toList.map λ(i,x)=>(i,e x))).map λcs=>(.agg cs,objs)
    |none=>none
   |some (.array _ el),some z=>match P.info? el with
    |some i=>(x6q (λk=>some (k*i.size,i.size)) z (parts.toList.map λ(k,x)=>(k,e x))).map λcs=>(.agg cs,objs)
    |none=>none
   |_,_=>none
 | .buildSlice t len parts=>match P.underlying t with
   |some (.slice el)=>match P.info? el,zeroCells P el with
    |some i,some z=>if len*i.size<=2 ^ 24/\z.length=i.size then
     match x6q (λk=>some (k*i.size,i.size)) (x5y z (len*i.size)) (parts.toList.map λ(k,x)=>(k,e x))with
     |some cs=>if !(cs.all AV.one)then none else if cs.all clean1 then some (.slit cs len true,objs)else some (.sref id0 0 0 len i.size true,updo objs id0 (some (.row cs 0 false)))
     |none=>none
     else none
    |_,_=>none
   |_=>none
 | .load t a=>match ty P t with
   |some (g,z)=>match e a with
    | .plit cs=>if cs.isEmpty then none else(rd g z cs).map λv=>(v,objs)
    | .ptr id ver off=>match objs id with
      |some (.row cs v _)=>if v=ver then(rd g z (cs.drop off)).map λv=>(v,objs)else none
      |_=>none
    |_=>none
   |none=>none
 | .store t a x=>match ty P t with
   |some (_,z)=>match e a with
    | .ptr id ver off=>match objs id with
      |some (.row cs v false)=>if v=ver/\(e x).cells.length=z/\off+z<=cs.length/\((e x).cells.all AV.one)then
       some (.sc undef,updo objs id (some (.row (x5o cs off (e x).cells) v false)))else none
      |_=>none
    |_=>none
   |none=>none
 | .nilCheck x=>match e x with
   | .sc v=>match v with
     | .pointer none | .nilIface | .nilFunc | .func ..=>none
     |v=>some (.sc v,objs)
   | .ptr id v o=>some (.ptr id v o,objs)
   | .plit cs=>some (.plit cs,objs)
   | .clo f cs=>some (.clo f cs,objs)
   | .yld l=>some (.yld l,objs)
   |_=>none
 | .binOp op t x y _=>match x5k (e x),x5k (e y)with
   |some a,some b=>(x5b P (do eqGuard op t x y a b;binOp op t a b)).map λv=>(x5j v,objs)
   |none,some (.slice none 0 0)=>match P.underlying t,e x with
    |some (.slice _),.slit .. | some (.slice _),.sref ..=>match op with
     | .eql=>some (.sc (.bool false),objs)
     | .neq=>some (.sc (.bool true),objs)
     |_=>none
    |_,_=>none
   |_,_=>none
 | .unOp op _ x=>match x5k (e x)with
   |some a=>(x5b P (Op.unary op a)).map λv=>(x5j v,objs)
   |none=>none
 | .convert src dst x=>match x5k (e x)with
   |some a=>match xac P src dst a with
    |some cs=>some (.slit cs cs.length false,objs)
    |none=>(x5b P (convert src dst a)).map λv=>(x5j v,objs)
   |none=>none
 | .makeFunc (.func f) first captured=>if first.size=0 then some (.clo f (captured.toList.map e),objs)else none
 | .makeSlice t l c=>match P.underlying t with
   |some (.slice el)=>match P.info? el,zeroCells P el,asI (e l),asI (e c)with
    |some i,some z,some l,some c=>if 0<=l/\l<=c/\i.bytes*c<=2 ^ 47/\c<=2 ^ 47/\z.length=i.size then
     some (.sref id0 0 0 l.toNat i.size true,updo objs id0 (some (.row (x5y z (c.toNat*i.size)) 0 false)))else none
    |_,_,_,_=>none
   |_=>none
 | .slice t x lo hi none=>
   match x5k (e x)with
   |some v=>match x5i (lo.toList.map e),x5i (hi.toList.map e)with
    |some ls,some hs=>(x5b P (Instr.sliceAt t v (ls[0]?) (hs[0]?) none)).map λv=>(x5j v,objs)
    |_,_=>none
   |none=>match P.underlying t with
    |some (.slice el)=>match P.info? el,asI (match lo with|some x=>e x|none=>.sc (.int .i64 0))with
     |some i,some l=>match e x with
      | .slit cs n x=>match asI (match hi with|some x=>e x|none=>.sc (.int .i64 n))with
        |some h=>if 0<=l/\l<=h/\h<=n/\n*i.size<=cs.length then some (.slit ((cs.drop (l.toNat*i.size)).take ((h-l).toNat*i.size)) (h-l).toNat (x&&decide (h=n)),objs)else none
        |none=>none
      | .sref id ver off n z full=>match asI (match hi with|some x=>e x|none=>.sc (.int .i64 n))with
        |some h=>if 0<=l/\l<=h/\h<=n/\z=i.size/\(full=true\/h=n)then some (.sref id ver (off+l.toNat*z) (h-l).toNat z full,objs)else none
        |none=>none
      |_=>none
     |_,_=>none
    |some (.array n el)=>match P.info? el,asI (match lo with|some x=>e x|none=>.sc (.int .i64 0)),asI (match hi with|some x=>e x|none=>.sc (.int .i64 n))with
     |some i,some l,some h=>match e x with
      | .ptr id ver off=>match objs id with
        |some (.row cs v _)=>if 0<=l/\l<=h/\h=n/\v=ver/\off+n*i.size<=cs.length then some (.sref id ver (off+l.toNat*i.size) (h-l).toNat i.size false,objs)else none
        |_=>none
      |_=>none
     |_,_,_=>none
    |_=>none
 | .sliceToArrayPointer t x=>match P.underlying t with
   |some (.array n _)=>match e x with
    | .slit cs q _=>if 0<n/\n<=q then some (.plit cs,objs)else none
    | .sref id ver off q _ _=>if 0<n/\n<=q then some (.ptr id ver off,objs)else none
    |_=>none
   |_=>none
 | .fieldAddr t x f=>match P.underlying t with
   |some (.struct fs)=>match fs[f]? with
    |some fd=>match P.info? fd.type with
     |some i=>if i.size=0 then none else match e x with
      | .ptr id ver off=>some (.ptr id ver (off+fd.offset),objs)
      | .plit cs=>some (.plit (cs.drop fd.offset),objs)
      |_=>none
     |none=>none
    |none=>none
   |_=>none
 | .field t x f=>match P.underlying t with
   |some (.struct fs)=>match fs[f]? with
    |some fd=>match ty P fd.type,e x with
     |some (g,z),.agg cs=>(rd g z (cs.drop fd.offset)).map λv=>(v,objs)
     |_,_=>none
    |none=>none
   |_=>none
 | .indexAddr t x ix=>match asI (e ix)with
   |some k=>match P.underlying t with
    |some (.slice el)=>match P.info? el with
     |some i=>match e x with
      | .slit cs n _=>if 0<=k/\k<n then some (.plit (cs.drop (k.toNat*i.size)),objs)else none
      | .sref id ver off n z _=>if 0<=k/\k<n/\z=i.size then some (.ptr id ver (off+k.toNat*z),objs)else none
      |_=>none
     |none=>none
    |some (.array n el)=>match P.info? el with
     |some i=>match e x with
      | .ptr id ver off=>if 0<=k/\k<n then some (.ptr id ver (off+k.toNat*i.size),objs)else none
      | .plit cs=>if 0<=k/\k<n then some (.plit (cs.drop (k.toNat*i.size)),objs)else none
      |_=>none
     |none=>none
    |_=>none
   |none=>none
 | .index t x ix=>match e x with
   | .agg cs=>match asI (e ix),P.underlying t with
     |some k,some (.array n el)=>match ty P el with
      |some (g,z)=>if 0<=k/\k<n then(rd g z (cs.drop (k.toNat*z))).map λv=>(v,objs)else none
      |none=>none
     |_,_=>none
   | .sc v=>match x5k (e ix)with
     |some k=>(x5b P (Instr.index t v k)).map λv=>(x5j v,objs)
     |none=>none
   |_=>none
 | .extract x i=>match e x with
   | .tup vs=>(vs[i]?).map λv=>(v,objs)
   |_=>none
 | .makeMap _ none=>some (.mp id0,updo objs id0 (some (.map [])))
 | .lookup t x ix ok=>match P.underlying t,x5k (e ix)with
   |some (.map kt et),some k=>match P.underlying kt,xbk P et with
    |some d,some zv=>
     match x8x objs (e x)with
     |some es=>if x8w P kt d k es then some (if ok then .tup [(findKey k es).getD zv,.sc (.bool (findKey k es).isSome)]else(findKey k es).getD zv,objs)else none
     |none=>none
    |_,_=>none
   |_,_=>none
 | .mapUpdate t m k x=>match P.underlying t,x5k (e k),e m with
   |some (.map kt _),some kv,.mp id=>match P.underlying kt,objs id with
    |some d,some (.map es)=>if x8w P kt d kv es then some (.sc undef,updo objs id (some (.map (setKey kv (e x) es))))else none
    |_,_=>none
   |_,_,_=>none
 | .call c=>match c.callee with
   | .builtin b=>x5p P id0 objs b c.argTypes o.type (c.args.toList.map e)
   |_=>none
 |_=>none
def frz(objs:Id->Option Ob):Nat->AV->Option AV
 |0,_=>none
 |k+1,a=>match a with
  | .sc v=>some (.sc v)
  | .agg cs=>(cs.mapM (frz objs k)).map .agg
  | .tup cs=>(cs.mapM (frz objs k)).map .tup
  | .slit cs n x=>some (.slit cs n x)
  | .plit cs=>some (.plit cs)
  | .sref id ver off n z _=>match objs id with
    |some (.row cs v _)=>if v=ver/\off+n*z<=cs.length then(((cs.drop off).take (n*z)).mapM (frz objs k)).map λl=>.slit l n false else none
    |_=>none
  | .ptr id ver off=>match objs id with
    |some (.row cs v _)=>if v=ver then((cs.drop off).mapM (frz objs k)).map .plit else none
    |_=>none
  | .clo f cs=>(cs.mapM (frz objs k)).map (.clo f)
  |_=>none
def x5d(objs:Id->Option Ob):Nat->AV->List Id
 |0,_=>[]
 |k+1,a=>match a with
  | .agg cs | .tup cs | .clo _ cs=>cs.flatMap (x5d objs k)
  | .sref id _ off n z _=>match objs id with
    |some (.row cs _ _)=>id::((cs.drop off).take (n*z)).flatMap (x5d objs k)
    |_=>[id]
  | .ptr id _ off=>match objs id with
    |some (.row cs _ _)=>id::(cs.drop off).flatMap (x5d objs k)
    |_=>[id]
  |_=>[]
def shut(ids:List Id)(objs:Id->Option Ob):Id->Option Ob:=λi=>
 if i∈ids then(match objs i with
  |some (.row cs v _)=>some (.row cs v true)
  |o=>o)
 else objs i
abbrev Hs:=List (Id×(List AV->St->Option St))
def live(objs:Id->Option Ob)(id:Id):Bool:=
 bif Nat.beq id.2.2 0 then true else match objs id with
 |some (.lp (some _))=>false
 |_=>true
def hsAt:Hs->Id->Option (List AV->St->Option St)
 |[],_=>none
 |(i,h)::r,id=>if i=id then some h else hsAt r id
abbrev Pol:=FuncId->Nat->Nat
structure Ctx where
 f:FuncId
 u:Nat
 nt:Nat
 hs:Hs
def x70:St:={objs:=λ_=>none,next:=0}
def deep:Nat:=6
def plain:AV->Bool
 | .sc _=>true
 | .agg cs | .tup cs=>cs.all fun | .sc _=>true|_=>false
 |_=>false
def isSc:AV->Bool
 | .sc _=>true
 |_=>false
def x9h:AV->Bool
 | .sc _ | .sref ..=>true
 | .agg cs | .tup cs=>cs.all fun | .sc _ | .sref ..=>true|_=>false
 |_=>false
def x5z(call:Hs->FuncId->List AV->St->Option (AV×St))(hs:Hs)(mode:Nat)(fv:AV)(args:List AV)(st:St):Option (AV×St):=
 match fv with
 | .clo f caps=>
   match mode with
   |0=>match (args++caps).mapM (frz st.objs deep)with
    |some l=>match call [] f l x70 with
     |some (r,st')=>(frz st'.objs deep r).map λr=>(r,{st with objs:=shut ((args++caps).flatMap (x5d st.objs deep)) st.objs})
     |none=>none
    |none=>none
   |3=>match (args++caps).mapM (frz st.objs deep)with
    |some l=>match call [] f l x70 with
     |some (r,_)=>if plain r then some (r,st)else none
     |none=>none
    |none=>none
   |4=>match (args++caps).mapM (frz st.objs deep)with
    |some l=>match call [] f l {objs:=λ_=>none,next:=st.next}with
     |some (r,st')=>
      let ids:=x5d st'.objs deep r
      if x9h r&&ids.all (λi=>decide (st.next<=i.1)&&match st'.objs i with|some (.row cs _ false)=>cs.all isSc|_=>false)then
       some (r,{objs:=λi=>if i∈ids then st'.objs i else st.objs i,next:=st'.next})
      else none
     |none=>none
    |none=>none
   |1=>if(args++caps).all clean then match call [] f (args++caps) {objs:=λ_=>none,next:=st.next}with
     |some (r,st')=>some (r,{objs:=λi=>if st.next<=i.1 then st'.objs i else st.objs i,next:=st'.next})
     |none=>none
    else none
   |_=>call hs f (args++caps) st
 | .yld id=>match hsAt hs id with
   |some h=>(h args st).map λst'=>(.sc (.bool (live st'.objs id)),st')
   |none=>none
 |_=>none
def put(c:Ctx)(dst:Option Tmp)(v:AV)(s:S):Option S:=
 match dst with
 |some d=>if d<c.nt then some {s with sl:=upd s.sl d v}else none
 |none=>some s
def x6r(ops:Array Oper)(o:Oper)(sl:Nat->AV):Bool:=
 match o.guard with
 |none=>true
 |some (j,want)=>match (ops[j]?).bind (·.dst)with
  |some t=>match sl t with
   | .sc (.bool b)=>b == want
   |_=>false
  |none=>false
def x5v(P:Program)(pol:Pol)(call:Hs->FuncId->List AV->St->Option (AV×St))(c:Ctx)(ops:Array Oper)(i:Nat)(s:S):Option S:=
 match ops[i]? with
 |none=>some s
 |some o=>
  if x6r ops o s.sl then
   match o.op with
   | .call {callee:=.value fv,args,.. }=>
     match x5z call c.hs (pol c.f (o.dst.getD 0)) (ev s.sl fv) (args.toList.map (ev s.sl)) s.st with
     |some (v,st')=>put c o.dst v {s with st:=st' }
     |none=>none
   |_=>match ixOp P (c.u,s.fc+i,o.dst.getD 0) o s.sl s.st.objs with
    |some (v,objs')=>put c o.dst v {s with st:={s.st with objs:=objs' }}
    |none=>none
  else put c o.dst (.sc undef) s
def x5r(P:Program)(pol:Pol)(call:Hs->FuncId->List AV->St->Option (AV×St))(c:Ctx)(ops:Array Oper):List Nat->S->Option S
 |[],s=>some s
 |i::r,s=>match x5v P pol call c ops i s with
  |some s'=>x5r P pol call c ops r s'
  |none=>none
def befs(ops:Array Oper):List (List Nat):=
 ops.toList.foldl (λacc o=>acc++[(o.after.toList.filter (Region.binds .any)).flatMap λe=>e.on::acc.getD e.on []]) []
def x5e(id0:Id)(o:Oper)(sl:Nat->AV):Option (List Id)×Option (List Id):=
 match o.op with
 | .load _ a=>match ev sl a with
   | .ptr id _ _=>(some [id],some [])
   |_=>(some [],some [])
 | .store _ a _=>match ev sl a with
   | .ptr id _ _=>(some [],some [id])
   |_=>(none,none)
 | .alloc _ | .box _ _ | .makeSlice .. | .makeMap .. | .buildSlice ..=>(some [],some [id0])
 | .lookup _ x _ _=>match ev sl x with
   | .mp id=>(some [id],some [])
   |_=>(some [],some [])
 | .slice _ x _ _ _=>match ev sl x with
   | .ptr id _ _=>(some [id],some [])
   |_=>(some [],some [])
 | .move _ | .assign _ | .pick .. | .binOp .. | .unOp .. | .convert .. | .sliceToArrayPointer .. | .fieldAddr .. | .field .. | .indexAddr .. | .index .. | .extract .. | .build .. | .nilCheck _ | .makeFunc ..=>(some [],some [])
 | .call c=>match c.callee with
   | .builtin b=>
     let rs:=match c.args.toList with
      |[_,x]=>match ev sl x with
       | .sref id ..=>some [id]
       | .slit .. | .sc _=>some []
       |_=>none
      |_=>none
     match b with
     | .len | .min | .max | .cap | .real | .imag | .complex=>(some [],some [])
     | .append=>(rs,match c.args.toList with
       |[s,_]=>match ev sl s with
        | .sref id _ _ _ _ true=>some [id]
        | .sref id _ _ _ _ false=>some [id,id0]
        | .slit .. | .sc _=>some [id0]
        |_=>none
       |_=>none)
     | .copy=>(rs,match c.args.toList with
       |[s,_]=>match ev sl s with
        | .sref id ..=>some [id]
        | .sc _=>some []
        |_=>none
       |_=>none)
     |_=>(none,none)
   |_=>(none,none)
 |_=>(none,none)
def x5l(o:Oper):Bool:=
 match o.op with
 | .call {callee:=.value _,.. }=>true
 |_=>false
def meek(mode:Nat)(o:Oper)(sl:Nat->AV):Nat:=
 match o.op with
 | .call c=>match c.callee with
   | .value fv=>match ev sl fv with
     | .clo _ cs=>if mode=3\/mode=4 then 1 else if mode<=1/\(c.args.toList.map (ev sl)++cs).all clean=true then 2 else 0
     |_=>0
   |_=>0
 |_=>0
def disj(a b:List Id):Bool:=a.all λi=>!(b.contains i)
def x7q(x y:Option (List Id)×Option (List Id)):Bool:=
 match x,y with
 |(some [],some []),_=>true
 |_,(some [],some [])=>true
 |(some r,some w),(some r',some w')=>disj r w'&&disj r' w&&disj w w'
 |_,_=>false
def quiet:Op->Bool
 | .move _ | .assign _ | .pick .. | .binOp .. | .unOp .. | .convert .. | .sliceToArrayPointer .. | .fieldAddr .. | .field .. | .indexAddr .. | .index .. | .extract .. | .build .. | .nilCheck _ | .makeFunc ..=>true
 | .alloc _ | .box _ _ | .makeSlice .. | .makeMap .. | .buildSlice ..=>true
 | .call c=>match c.callee with
   | .builtin .len | .builtin .min | .builtin .max | .builtin .cap | .builtin .real | .builtin .imag | .builtin .complex=>true
   |_=>false
 |_=>false
def late(ops:Array Oper)(i j:Nat):Bool:=
 match ops[i]?,(ops[j]?).bind (·.dst)with
 |some x,some d=>quiet x.op||!(x.looksAt ops).contains d
 |_,_=>true
def x71(mode:Nat)(lim:Option Nat)(id0:Id)(x y:Oper)(sl:Nat->AV):Bool:=
 !(x5l y)&&(match x5e id0 y sl with
 |(some r,some ws)=>(match lim with|some n=>(r++ws).all (decide <| ·.1<n)|none=>true)&&(meek mode x sl == 2||(meek mode x sl == 1&&ws.isEmpty))
 |_=>false)
def pairOK(pol:Pol)(c:Ctx)(fc next0:Nat)(ops:Array Oper)(i j:Nat)(sl:Nat->AV):Bool:=
 match ops[i]?,ops[j]? with
 |some x,some y=>x.apart ops y &&
  (if x5l x then x71 (pol c.f (x.dst.getD 0)) (some next0) (c.u,fc+j,y.dst.getD 0) x y sl
   else if x5l y then x71 (pol c.f (y.dst.getD 0)) none (c.u,fc+i,x.dst.getD 0) y x sl
   else x7q (x5e (c.u,fc+i,x.dst.getD 0) x sl) (x5e (c.u,fc+j,y.dst.getD 0) y sl))
 |_,_=>false
def x8d(pol:Pol)(c:Ctx)(fc next0:Nat)(ops:Array Oper)(sl:Nat->AV):Bool:=
 let b:=befs ops
 (List.range ops.size).all λj=>late ops j j&&(b.getD j []).all (decide <| · < j)&&(List.range j).all λi=>late ops i j&&((b.getD j []).contains i||pairOK pol c fc next0 ops i j sl)
def mapLen(P:Program)(o:Oper):Bool:=
 match o.op with
 | .call c=>match c.callee with
   | .builtin .len=>match P.underlying (c.argTypes.getD 0 0)with
     |some (.map _ _)=>true
     |_=>false
   |_=>false
 |_=>false
def x8e(P:Program)(ops:Array Oper):Bool:=ops.toList.any (mapLen P)
def x6s(P:Program)(pol:Pol)(call:Hs->FuncId->List AV->St->Option (AV×St))(c:Ctx)(ops:Array Oper)(draw:Bool)(s:S):Option S:=
 match x5r P pol call c ops (List.range ops.size) s with
 |some s'=>if draw&&!(!(x8e P ops)&&x8d pol c s.fc s.st.next ops s'.sl)then none else some {s' with fc:=s.fc+ops.size}
 |none=>none
def x6a(ps:List Tmp)(args:List AV)(sl:Nat->AV):Nat->AV:=
 match ps,args with
 |p::ps,a::as=>x6a ps as (upd sl p a)
 |_,_=>sl
def x6t:List Nat->Code->Bool
 |_,.ret=>true
 |l,.exit id=>!(l.any (Nat.beq id))
 |l,.seq a b=>x6t l a||x6t l b
 |l,.cond _ a b=>x6t l a||x6t l b
 |l,.block id b=>x6t (id::l) b
 |l,.loop b=>x6t l b
 |l,.rangeFunc _ _ a b=>x6t l a||x6t l b
 |_,_=>false
def x6e(low:Ctx->Code->S->Option (Out×S))(c:Ctx)(id:Id)(params:Array Tmp)(assign body:Code)(sl:Nat->AV):List AV->St->Option St:=λargs st=>
 if args.length=params.size/\params.all (· < c.nt)then
  match low {c with u:=st.next} assign {sl:=x6a params.toList args sl,st:={st with next:=st.next+1},fc:=0}with
  |some (.normal,s1)=>match s1.st.objs id with
   |some (.lp none)=>match low {c with u:=st.next} body s1 with
    |some (o,s2)=>match s2.st.objs id with
     |some (.lp none)=>match o with
      | .normal=>some s2.st
      |o=>some {s2.st with objs:=updo s2.st.objs id (some (.lp (some o)))}
     |_=>none
    |none=>none
   |_=>none
  |_=>none
 else none
def x5n(P:Program)(pol:Pol)(low:Ctx->Code->S->Option (Out×S))(call:Hs->FuncId->List AV->St->Option (AV×St))(c:Ctx):Code->S->Option (Out×S)
 | .skip,s=>some (.normal,s)
 | .region _ ops draw,s=>(x6s P pol call c ops draw s).map λs'=>(.normal,s')
 | .seq a b,s=>match x5n P pol low call c a s with
   |some (.normal,s')=>x5n P pol low call c b s'
   |r=>r
 | .cond x a b,s=>match ev s.sl x with
   | .sc (.bool true)=>x5n P pol low call c a s
   | .sc (.bool false)=>x5n P pol low call c b s
   |_=>none
 | .block id b,s=>match x5n P pol low call c b s with
   |some (.exit id',s')=>if id'=id then some (.normal,s')else some (.exit id',s')
   |r=>r
 | .loop b,s=>match x5n P pol low call c b s with
   |some (.normal,s')=>low c (.loop b) s'
   |r=>r
 | .exit id,s=>some (.exit id,s)
 | .ret,s=>some (.ret,s)
 | .rangeFunc f params assign body,s=>match ev s.sl f with
   | .clo g caps=>
     if x6t [] body then
      match call (((c.u,s.fc,1),x6e low c (c.u,s.fc,1) params assign body s.sl)::c.hs) g (.yld (c.u,s.fc,1)::caps) {s.st with objs:=updo s.st.objs (c.u,s.fc,1) (some (.lp none))}with
      |some (_,st')=>match st'.objs (c.u,s.fc,1)with
       |some (.lp none)=>some (.normal,{s with st:=st',fc:=s.fc+1})
       |some (.lp (some o))=>some (o,{s with st:=st',fc:=s.fc+1})
       |_=>none
      |none=>none
     else
     let h:List AV->St->Option St:=λargs st=>
      if args.length=params.size/\params.all (· < c.nt)then
       let c':={c with u:=st.next}
       let s0:S:={sl:=x6a params.toList args s.sl,st:={st with next:=st.next+1},fc:=0}
       match low c' assign s0 with
       |some (.normal,s1)=>match low c' body s1 with
        |some (.normal,s2)=>some s2.st
        |_=>none
       |_=>none
      else none
     match call (((c.u,s.fc,0),h)::c.hs) g (.yld (c.u,s.fc,0)::caps) s.st with
     |some (_,st')=>some (.normal,{s with st:=st',fc:=s.fc+1})
     |none=>none
   |_=>none
 |_,_=>none
def x6u(P:Program)(rs:List ResultVar)(s:S):Option (List AV):=
 match rs with
 |[]=>some []
 | .tmp t::r=>match x6u P r s with
   |some l=>some (s.sl t::l)
   |none=>none
 | .cell a t::r=>match ty P t,s.sl a with
   |some (g,z),.ptr id ver off=>match s.st.objs id with
    |some (.row cs v _)=>if v=ver then match rd g z (cs.drop off),x6u P r s with
     |some v,some l=>some (v::l)
     |_,_=>none
     else none
    |_=>none
   |_,_=>none
def x72(args:List AV):Nat->AV:=λt=>args.getD t (.sc undef)
def x7c(P:Program)(code:Ctx->Code->S->Option (Out×S))(hs:Hs)(f:FuncId)(args:List AV)(st:St):Option (AV×St):=
 match P.funcs[f]? with
 |some fn=>match fn.body with
  |some body=>if fn.name≠"runtime.NumGoroutine"/\args.length<=fn.ntmps then
   match code {f:=f,u:=st.next,nt:=fn.ntmps,hs:=hs} body {sl:=x72 args,st:={st with next:=st.next+1},fc:=0}with
   |some (.exit _,_)=>none
   |some (_,s')=>match x6u P fn.results.toList s' with
    |some [v]=>some (v,s'.st)
    |some l=>some (.tup l,s'.st)
    |none=>none
   |none=>none
   else none
  |none=>match x5i args with
   |some vs=>match x5b P (callFunc f vs.toArray)with
    |some (.value u)=>some (x5j u,st)
    |_=>none
   |none=>none
 |none=>none
def ix(P:Program)(pol:Pol):Nat->Ctx->Code->S->Option (Out×S)
 |0=>λ_ _ _=>none
 |n+1=>x5n P pol (ix P pol n) (x7c P (ix P pol n))
def x5q(P:Program)(pol:Pol)(n:Nat):Hs->FuncId->List AV->St->Option (AV×St):=x7c P (ix P pol n)
def HLe:Hs->Hs->Prop
 |[],[]=>True
 |(i,h)::r,(j,g)::q=>i=j/\(∀args st st',h args st=some st'->g args st=some st')/\HLe r q
 |_,_=>False
theorem HLe.refl:∀hs:Hs,HLe hs hs
 |[]=>trivial
 |(_,_)::r=>⟨rfl,λ_ _ _ h=>h,HLe.refl r⟩
def x8f(call call':Hs->FuncId->List AV->St->Option (AV×St)):Prop:=∀hs hs' f args st r,HLe hs hs'->call hs f args st=some r->call' hs' f args st=some r
def LowLe(low low':Ctx->Code->S->Option (Out×S)):Prop:=∀(c:Ctx) hs' code s r,HLe c.hs hs'->low c code s=some r->low' {c with hs:=hs' } code s=some r
section
variable{P:Program}{pol:Pol}{call call':Hs->FuncId->List AV->St->Option (AV×St)}{low low':Ctx->Code->S->Option (Out×S)}
theorem xbl:∀{hs hs':Hs} {id:Id} {h:List AV->St->Option St},HLe hs hs'->hsAt hs id=some h->∃g,hsAt hs' id=some g/\∀args st st',h args st=some st'->g args st=some st'
 |[],[],_,_,_,e=>by simp[hsAt]at e
 |(i,h0)::r,(j,g0)::q,id,h,hle,e=>by
  obtain⟨rfl,h1,h2⟩:=hle
  simp only[hsAt]at e ⊢
  split at e
  .rename_i hi;cases e;rw[xhk hi];exact⟨g0,rfl,h1⟩
  .rename_i hi;rw[xhl hi];exact xbl h2 e
 |[],_::_,_,_,h,_=>h.elim
 |_::_,[],_,_,h,_=>h.elim
theorem invoke_le(hc:x8f call call'){hs hs':Hs}(hh:HLe hs hs'){mode:Nat}{fv:AV}{args:List AV}{st:St}{r:AV×St}(h:x5z call hs mode fv args st=some r):x5z call' hs' mode fv args st=some r:=by
 cases fv with
 |clo f caps=>
  simp only[x5z]at h ⊢
  split at h
  .split at h
   .split at h
    .rename_i e;simp only[hc _ _ _ _ _ _ (HLe.refl []) e];exact h
    .cases h
   .cases h
  .split at h
   .split at h
    .rename_i e;simp only[hc _ _ _ _ _ _ (HLe.refl []) e];exact h
    .cases h
   .cases h
  .split at h
   .split at h
    .rename_i e;simp only[hc _ _ _ _ _ _ (HLe.refl []) e];exact h
    .cases h
   .cases h
  .split at h
   .rename_i hcl
    rw[xhk hcl]
    split at h
    .rename_i e;simp only[hc _ _ _ _ _ _ (HLe.refl []) e];exact h
    .cases h
   .cases h
  .exact hc _ _ _ _ _ _ hh h
 |yld id=>
  simp only[x5z]at h ⊢
  split at h
  .rename_i g hg
   obtain⟨g',e1,e2⟩:=xbl hh hg
   simp only[xhp]at h
   obtain⟨st',h1,h2⟩:=h
   simp only[e1,e2 _ _ _ h1,Option.map_some,h2]
  .cases h
 |_=>simp[x5z]at h
theorem step_le(hc:x8f call call'){c:Ctx}{hs':Hs}(hh:HLe c.hs hs'){ops:Array Oper}{i:Nat}{s s':S}(h:x5v P pol call c ops i s=some s'):x5v P pol call' {c with hs:=hs' } ops i s=some s':=by
 unfold x5v at h ⊢
 split at h
 .exact h
 .split at h
  .rename_i hw
   rw[xhk hw]
   split at h
   .split at h
    .rename_i e
     simp only[invoke_le hc hh e]
     exact h
    .cases h
   .exact h
  .rename_i hw
   rw[xhl hw]
   exact h
theorem run_le(hc:x8f call call'){c:Ctx}{hs':Hs}(hh:HLe c.hs hs'){ops:Array Oper}:∀{L:List Nat} {s s':S},x5r P pol call c ops L s=some s'->x5r P pol call' {c with hs:=hs' } ops L s=some s'
 |[],_,_,h=>h
 |i::L,s,s',h=>by
  simp only[x5r]at h ⊢
  split at h
  .rename_i e;simp only[step_le hc hh e];exact run_le hc hh h
  .cases h
theorem xd7(hc:x8f call call'){c:Ctx}{hs':Hs}(hh:HLe c.hs hs'){ops:Array Oper}{draw:Bool}{s s':S}(h:x6s P pol call c ops draw s=some s'):x6s P pol call' {c with hs:=hs' } ops draw s=some s':=by
 unfold x6s at h ⊢
 split at h
 .rename_i e;simp only[run_le hc hh e];exact h
 .cases h
theorem xd8(hl:LowLe low low'){c:Ctx}{hs':Hs}(hh:HLe c.hs hs'){id:Id}{ps:Array Tmp}{a b:Code}{sl:Nat->AV}{args:List AV}{st st2:St}(h:x6e low c id ps a b sl args st=some st2):x6e low' {c with hs:=hs' } id ps a b sl args st=some st2:=by
 unfold x6e at h ⊢
 split at h
 .rename_i hcond
  rw[xhk hcond]
  split at h
  .rename_i s1 e1
   have q1:=hl {c with u:=st.next} hs' _ _ _ hh e1
   simp only at q1 ⊢
   rw[q1]
   simp only
   split at h
   .split at h
    .rename_i o s2 e2
     have q2:=hl {c with u:=st.next} hs' _ _ _ hh e2
     simp only at q2
     rw[q2]
     exact h
    .cases h
   .cases h
  .cases h
 .cases h
theorem x7d(hc:x8f call call')(hl:LowLe low low'):∀(code:Code) {c:Ctx} {hs':Hs} {s:S} {r:Out×S},HLe c.hs hs'->x5n P pol low call c code s=some r->x5n P pol low' call' {c with hs:=hs' } code s=some r
 | .skip,_,_,_,_,_,h=>h
 | .region id ops draw,c,hs',s,r,hh,h=>by
   simp only[x5n,xhp]at h ⊢
   obtain⟨s',h1,h2⟩:=h
   exact⟨s',xd7 hc hh h1,h2⟩
 | .seq a b,c,hs',s,r,hh,h=>by
   simp only[x5n]at h ⊢
   split at h
   .rename_i e;simp only[x7d hc hl a hh e];exact x7d hc hl b hh h
   .rename_i hn
    rw[x7d hc hl a hh h]
    obtain⟨o,s'⟩:=r
    cases o with
    |normal=>exact absurd h (hn s')
    |_=>rfl
 | .cond x a b,c,hs',s,r,hh,h=>by
   simp only[x5n]at h ⊢
   split at h
   .exact x7d hc hl a hh h
   .exact x7d hc hl b hh h
   .cases h
 | .block id b,c,hs',s,r,hh,h=>by
   simp only[x5n]at h ⊢
   split at h
   .rename_i e;simp only[x7d hc hl b hh e];exact h
   .rename_i hn
    rw[x7d hc hl b hh h]
    obtain⟨o,s'⟩:=r
    cases o with
    |exit id'=>exact absurd h (hn id' s')
    |_=>rfl
 | .loop b,c,hs',s,r,hh,h=>by
   simp only[x5n]at h ⊢
   split at h
   .rename_i e;simp only[x7d hc hl b hh e];exact hl _ _ _ _ _ hh h
   .rename_i hn
    rw[x7d hc hl b hh h]
    obtain⟨o,s'⟩:=r
    cases o with
    |normal=>exact absurd h (hn s')
    |_=>rfl
 | .exit _,_,_,_,_,_,h=>h
 | .ret,_,_,_,_,_,h=>h
 | .rangeFunc f params assign body,c,hs',s,r,hh,h=>by
   simp only[x5n]at h ⊢
   split at h
   .rename_i g caps e
    split at h
    .rename_i hlp
     rw[xhk hlp]
     split at h
     .rename_i r0 st' hcall
      have:=hc _ _ _ _ _ _ (show HLe (((c.u,s.fc,1),x6e low c (c.u,s.fc,1) params assign body s.sl)::c.hs) (((c.u,s.fc,1),x6e low' {c with hs:=hs' } (c.u,s.fc,1) params assign body s.sl)::hs')from⟨rfl,λargs st st2 h2=>xd8 hl hh h2,hh⟩) hcall
      simp only[this]
      exact h
     .cases h
    .rename_i hlp
     rw[xhl hlp]
     split at h
     .rename_i r0 st' hcall
      have key:=λ(hle:HLe _ ((((c.u,s.fc,0):Id),λargs st=>
       if args.length=params.size/\params.all (· < c.nt)then
        match low' {c with hs:=hs',u:=st.next} assign {sl:=x6a params.toList args s.sl,st:={st with next:=st.next+1},fc:=0}with
        |some (.normal,s1)=>match low' {c with hs:=hs',u:=st.next} body s1 with
         |some (.normal,s2)=>some s2.st
         |_=>none
        |_=>none
       else none)::hs'))=>hc _ _ _ _ _ _ hle hcall
      have:=key ⟨rfl,λargs st st2 h2=>(by
       simp only at h2 ⊢
       split at h2
       .rename_i hcond
        rw[xhk hcond]
        split at h2
        .rename_i s1 e1
         have q1:=hl {c with u:=st.next} hs' _ _ _ hh e1
         simp only at q1 ⊢
         rw[q1]
         simp only
         split at h2
         .rename_i s2 e2
          have q2:=hl {c with u:=st.next} hs' _ _ _ hh e2
          simp only at q2
          rw[q2]
          exact h2
         .cases h2
        .cases h2
       .cases h2),hh⟩
      split
      .rename_i r1 st1 e2
       have e3:=this.symm.trans e2
       cases e3
       exact h
      .rename_i e2
       exact absurd (this.symm.trans e2) (by simp)
     .cases h
   .cases h
 | .scope _,_,_,_,_,_,h=>by simp[x5n]at h
 | .goto _,_,_,_,_,_,h=>by simp[x5n]at h
 | .label _,_,_,_,_,_,h=>by simp[x5n]at h
 | .refuse _,_,_,_,_,_,h=>by simp[x5n]at h
theorem body_le{code code':Ctx->Code->S->Option (Out×S)}(hl:LowLe code code'):x8f (x7c P code) (x7c P code'):=by
 intro hs hs' f args st r hh h
 unfold x7c at h ⊢
 split at h
 .split at h
  .split at h
   .rename_i hcond
    rw[xhk hcond]
    split at h
    .cases h
    .rename_i o s' hne e
     have q:=hl _ hs' _ _ _ hh e
     simp only at q
     rw[q]
     cases o with
     |exit id=>exact absurd rfl (hne id)
     |_=>exact h
    .cases h
   .cases h
  .exact h
 .cases h
theorem x6v:∀{n m:Nat},n<=m->LowLe (ix P pol n) (ix P pol m)
 |0,_,_=>λ_ _ _ _ _ _ h=>by simp[ix]at h
 |n+1,0,h=>by omega
 |n+1,m+1,h=>λc hs' code s r hh e=>x7d (body_le (x6v (by omega:n<=m))) (x6v (by omega:n<=m)) code hh e
end
end Go.Ix
