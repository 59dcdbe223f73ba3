import GoSem.Step
import Derived.Laws.Sem
import Derived.Lib.AtoiAll
import Derived.Orders
set_option linter.all false
noncomputable section
namespace Go.Ix
abbrev aB:=@if_neg
abbrev aF:=@if_pos
abbrev bC:=@List.drop_zero
abbrev bF:=@Prod.mk.injEq
abbrev bG:=@decide_true
abbrev bN:=@Option.some.injEq
abbrev bO:=@Nat.le_refl
abbrev bP:=@decide_false
abbrev bR:=@Nat.zero_add
abbrev cE:=@Option.map_eq_some_iff
abbrev cF:=@Bool.not_false
abbrev cI:=@Bool.and_eq_true
abbrev cM:=@if_true
abbrev cN:=@Bool.not_true
abbrev cT:=@if_false
abbrev dJ:=@List.all_eq_true
abbrev dM:=@List.take_of_length_le
abbrev dN:=@List.length_cons
abbrev dP:=@List.all_cons
abbrev dR:=@List.drop_succ_cons
abbrev dT:=@List.flatMap_cons
abbrev dW:=@List.mem_cons
abbrev eA:=@List.length_append
abbrev eE:=@List.mem_cons_of_mem
abbrev eI:=@List.mapM_cons
abbrev eJ:=@List.getElem?_eq_getElem
abbrev eP:=@List.mem_cons_self
abbrev eX:=@decide_eq_true
abbrev eY:=@decide_eq_false
abbrev fE:=@Nat.eq_of_beq_eq_true
abbrev fF:=@List.mem_map
abbrev fG:=@List.getElem_mem
abbrev fH:=@Bool.false_eq_true
abbrev fN:=@Nat.lt_of_lt_of_le
abbrev fU:=@List.getD_eq_getElem?_getD
abbrev fY:=@List.map_cons
abbrev gD:=@Bool.and_self
abbrev gX:=@List.mapM_nil
abbrev gY:=@List.length_nil
abbrev gZ:=@List.drop_eq_nil_iff
abbrev hJ:=@Int.toNat_natCast
abbrev iF:=@List.mem_append
abbrev iG:=@Bool.true_and
abbrev iH:=@List.append_nil
abbrev iQ:=@Nat.le_trans
abbrev iR:=@List.mem_range
abbrev iW:=@List.nil_append
abbrev iX:=@List.mem_filter
abbrev iY:=@List.cons_append
abbrev iZ:=@Array.getElem?_eq_getElem
abbrev jM:=@List.take_zero
abbrev jU:=@List.getElem?_cons_zero
abbrev jV:=@List.getElem?_cons_succ
abbrev kI:=@Bool.eq_false_iff
abbrev kS:=@Nat.lt_or_ge
abbrev lA:=@List.take_succ_cons
abbrev lB:=@List.map_nil
abbrev lC:=@List.getElem?_eq_some_iff
abbrev lD:=@Bool.or_eq_true
abbrev lT:=@Nat.succ_mul
abbrev lU:=@List.length_map
abbrev lV:=@List.drop_of_length_le
abbrev mH:=@Nat.lt_succ_self
abbrev mI:=@List.take_succ_eq_append_getElem
abbrev mJ:=@List.mem_of_getElem?
abbrev mK:=@List.mem_flatMap
abbrev mR:=@decide_eq_true_eq
abbrev mS:=@List.length_set
abbrev mT:=@List.all_nil
abbrev nS:=@Nat.mul_one
abbrev nT:=@Nat.mul_le_mul_right
abbrev nU:=@List.map_append
abbrev oF:=@Option.bind_eq_some_iff
abbrev oG:=@Nat.add_assoc
abbrev oH:=@List.length_take
abbrev oI:=@List.append_assoc
abbrev pR:=@Option.some.inj
abbrev pS:=@List.mem_singleton
abbrev pU:=@Bool.false_and
abbrev pV:=@Array.length_toList
abbrev pW:=@Array.getD_eq_getD_getElem?
abbrev rK:=@Nat.le_of_ble_eq_true
abbrev rL:=@List.range_succ
abbrev rM:=@List.length_eq_zero_iff
abbrev sA:=@of_decide_eq_true
abbrev tG:=@Array.getElem?_setIfInBounds_ne
abbrev uY:=@Nat.le_succ
abbrev uZ:=@Nat.add_zero
abbrev vA:=@List.pairwise_cons
abbrev vB:=@List.mem_iff_getElem
abbrev vC:=@List.flatMap_append
abbrev wV:=@Option.isSome_none
abbrev wW:=@Nat.zero_mul
abbrev wX:=@Nat.add_mul
abbrev wY:=@List.not_mem_nil
abbrev wZ:=@List.getElem?_drop
abbrev xA:=@List.filter_append
abbrev xF:=@Bool.and_true
abbrev zQ:=@Nat.beq_refl
abbrev zR:=@List.nodup_cons
abbrev zS:=@List.nodup_append
abbrev zT:=@List.mem_append_left
abbrev zU:=@List.getElem?_append_left
abbrev G7:=@Nat.mod_lt
abbrev G8:=@List.take_append_drop
abbrev G9:=@List.getElem_map
abbrev H0:=@List.getElem?_take
abbrev H1:=@List.drop_append
abbrev H2:=@List.any_eq_true
abbrev I8:=@Int.toNat_of_nonneg
abbrev J1:=@Array.getElem?_push_lt
abbrev J2:=@Array.getElem?_eq_none
abbrev V5:=@Option.bind_some
abbrev V6:=@Nat.mul_le_mul
abbrev V7:=@List.pairwise_append
abbrev V8:=@List.getElem_take
abbrev V9:=@List.getElem?_append_right
abbrev W0:=@List.flatMap_eq_nil_iff
abbrev W1:=@List.any_cons
abbrev FP:=@Nat.zero_le
abbrev FQ:=@List.mem_of_mem_take
abbrev FR:=@List.mem_iff_getElem?
abbrev FT:=@List.length_filter_le
abbrev FU:=@List.getElem?_set
abbrev FV:=@List.getElem?_map
abbrev FW:=@List.getElem?_eq_none
abbrev FX:=@List.filter_eq_self
abbrev FY:=@List.ext_getElem
abbrev FZ:=@List.drop_eq_getElem_cons
abbrev GA:=@List.any_eq_false
abbrev GE:=@Bool.false_or
abbrev HE:=@Array.size_eq_one_iff
abbrev HF:=@Array.getElem?_setIfInBounds_self_of_lt
abbrev LU:=@Option.isSome_iff_exists
abbrev LV:=@Nat.sub_self
abbrev LW:=@Nat.ble_eq_true_of_le
abbrev LY:=@List.take_append_of_le_length
abbrev LZ:=@List.mem_of_mem_drop
abbrev MA:=@List.mem_append_right
abbrev MB:=@List.map_take
abbrev MC:=@List.length_singleton
abbrev MD:=@List.length_drop
abbrev ME:=@List.getElem_set_ne
abbrev MF:=@List.getElem_append_right
abbrev MG:=@List.getElem?_append
abbrev MH:=@List.all_append
abbrev MQ:=@Int.zero_add
abbrev MR:=@Int.le_refl
abbrev NG:=@Bool.true_or
abbrev NH:=@Bool.eq_iff_iff
abbrev VR:=@Array.getElem?_toList
abbrev VS:=@Array.getElem?_eq_some_iff
abbrev VT:=@Array.getElem?_append_left
abbrev VU:=@Array.ext_getElem?
abbrev cq:=@decide_eq_true_iff
abbrev ef:=@Nat.add_comm
abbrev ei:=@List.take_take
abbrev ej:=@List.take_length_add_append
abbrev el:=@List.take_length
abbrev em:=@List.set_eq_take_append_cons_drop
abbrev eo:=@List.set_cons_succ
abbrev eu:=@List.nodup_range
abbrev ew:=@List.mem_map_of_mem
abbrev ey:=@List.head?_drop
abbrev ez:=@List.foldl_cons
abbrev fa:=@List.foldl_append
abbrev fb:=@List.filter_cons
abbrev fe:=@List.dropLast_concat_getLast
abbrev ff:=@List.contains_iff_mem
abbrev fg:=@List.Perm.refl
abbrev fm:=@Int.one_mul
abbrev pk:=@Bool.or_true
abbrev pm:=@Bool.or_false
abbrev pq:=@Bool.not_eq_true'
abbrev xh:=@Array.mem_of_getElem?
abbrev xi:=@Array.getElem?_modify
abbrev xj:=@Array.getElem?_append
abbrev xk:=@Array.ext'
abbrev xl:=@Array.all_eq_true_iff_forall_mem
abbrev xhx:=@Nat.min_eq_left
abbrev xh0:=@Nat.add_sub_cancel
abbrev xh1:=@List.set_append_right
abbrev xh2:=@List.reverse_cons
abbrev xh3:=@List.replicate_succ
abbrev xh4:=@List.pairwise_lt_range
abbrev xh5:=@List.mem_or_eq_of_mem_set
abbrev xh9:=@List.map_congr_left
abbrev xia:=@List.length_pos_iff
abbrev xib:=@List.getElem_of_mem
abbrev xic:=@List.getElem_cons_zero
abbrev xid:=@List.getD_cons_zero
abbrev xie:=@List.foldr_cons
abbrev xif:=@List.flatMap_nil
abbrev xig:=@List.drop_drop
abbrev xih:=@List.cons.injEq
abbrev xii:=@Int.natAbs_mul
abbrev xip:=@Bool.not_eq_true
abbrev xja:=@Array.toList_inj
abbrev xjb:=@Array.size_setIfInBounds
abbrev xjc:=@Array.getElem?_setIfInBounds
abbrev xjd:=@Array.getElem?_replicate
abbrev xje:=@Array.getElem?_append_right
abbrev xjf:=@Array.foldl_toList
abbrev x9i:=@List.pairwise_iff_getElem
abbrev x9o:=@List.drop_append_of_le_length
abbrev x9r:=@Int.mul_le_mul_of_nonneg_right
abbrev x9s:=@Int.mul_le_mul_of_nonneg_left
abbrev x9y:=@Array.mapM_eq_mapM_toList
abbrev Id:=Nat×Nat×Nat
inductive AV where
 |sc (v:Value)
 |agg (cs:List AV)
 |tup (vs:List AV)
 |aN (cs:List AV) (n:Nat) (ex:Bool)
 |aE (cs:List AV)
 |sref (id:Id) (ver off n z:Nat) (full:Bool)
 |ptr (id:Id) (ver off:Nat)
 |clo (f:FuncId) (caps:List AV)
 |yld (id:Id)
 |mp (id:Id)
 |un (p:Value->Prop)
instance:Inhabited AV:=⟨.sc undef⟩
inductive Out where
 |normal
 |exit (id:Nat)
 |ret
inductive Ob where
 |row (cs:List AV) (ver:Nat) (frz:Bool)
 |map (es:List (Value×AV))
 |lp (d:Option Out)
 |bld (t e:TypeId) (l:List UInt8)
structure St where
 aC:Id->Option Ob
 next:Nat
structure S where
 sl:Nat->AV
 st:St
 fc:Nat
def tM{α:Type}(f:Nat->α)(i:Nat)(v:α):Nat->α:=λj=>if j=i then v else f j
def bH(f:Id->Option Ob)(i:Id)(v:Option Ob):Id->Option Ob:=λj=>if j=i then v else f j
def bT(P:Program){α:Type}:Sem α->Option α
 | .pure a=>some a
 | .program k=>bT P (k P)
 | .mark _ k=>bT P k
 |_=>none
def L3:List AV->Option (List Value)
 |[]=>some []
 | .sc v::r=>match L3 r with
   |some l=>some (v::l)
   |none=>none
 |_=>none
def dO:AV->Option Value
 | .sc v=>some v
 | .agg a=>match L3 a with
   |some l=>some (.agg l.toArray)
   |none=>none
 | .clo f []=>some (.func (.func f) #[] #[])
 |_=>none
def fJ:Value->AV
 | .agg a=>.agg (a.toList.map .sc)
 | .tuple b=>.tup (b.toList.map .sc)
 |v=>.sc v
def AV.cells:AV->List AV
 | .sc v=>v.cells.toList.map .sc
 | .agg cs=>cs
 |a=>[a]
def AV.one:AV->Bool
 | .sc v=>v.oneCell'
 | .agg _ | .tup _=>false
 |_=>true
def eM:AV->Bool
 | .sc _ | .aN .. | .aE _ | .un _=>true
 | .clo _ a=>a.all fun | .sc _ | .aN ..=>true|_=>false
 |_=>false
def clean:AV->Bool
 | .agg b=>b.all eM
 |a=>eM a
def ev(b:Nat->AV):Operand->AV
 | .tmp t=>b t
 | .const v=>fJ v
 | .global g=>.sc (.pointer (some ⟨g,0,none⟩))
 | .func f=>.clo f []
def ty(P:Program)(t:TypeId):Option (Bool×Nat):=
 match P.underlying t,P.info? t with
 |some (.struct _),some i=>some (true,i.size)
 |some (.array _ _),some i=>some (true,i.size)
 |some _,some i=>some (false,i.size)
 |_,_=>none
def rd(g:Bool)(z:Nat)(a:List AV):Option AV:=
 if g then(if z<=a.length then some (.agg (a.take z))else none)else a.head?
def cS(b:List AV)(a:Nat)(vs:List AV):List AV:=b.take a++(vs++b.drop (a+vs.length))
def dL:AV->Option Int
 | .sc (.int _ n)=>some n
 |_=>none
def elems(a:Id->Option Ob)(z:Nat):AV->Option (List AV×Nat)
 | .sc (.slice none 0 _)=>some ([],0)
 | .aN b n _=>if n*z<=b.length then some (b.take (n*z),n)else none
 | .sref id e d n f _=>match a id with
   |some (.row b v _)=>if v=e/\f=z/\d+n*z<=b.length then some ((b.drop d).take (n*z),n)else none
   |_=>none
 |_=>none
def rH(a:Nat->Option (Nat×Nat))(e:List AV):List (Nat×AV)->Option (List AV)
 |[]=>some e
 |(i,v)::b=>match a i with
  |some (d,size)=>if v.cells.length=size/\d+size<=e.length then rH a (cS e d v.cells) b else none
  |none=>none
def fieldsOf(P:Program)(a:Array Field):Option (List (Nat×Nat)):=
 a.toList.mapM λf=>(P.info? f.type).map λi=>(f.offset,i.size)
def zeroCells(P:Program)(t:TypeId):Option (List AV):=
 match P.info? t with
 |some i=>match i.zero with
  |some v=>if v.cells.toList.all Value.oneCell' then some (v.cells.toList.map .sc)else none
  |none=>none
 |none=>none
def eN(z:List AV)(n:Nat):List AV:=(List.range n).map λi=>z.getD (i % z.length) (.sc undef)
def cH(n a:Nat):Prop:=(2*n+1000)*a<=2 ^ 47/\n<=2 ^ 47
instance (n bytes:Nat):Decidable (cH n bytes):=by unfold cH;infer_instance
def wH(P:Program)(g:Id)(a:Id->Option Ob)(h:Array TypeId)(o:List AV):Option (AV×(Id->Option Ob)):=
 match h.toList,o with
 |[t,r],[s,x]=>match P.underlying t,P.underlying r with
  |some (.slice e),some d=>match P.info? e,zeroCells P e with
   |some i,some p=>if p.length=i.size/\0<i.size then
    let f:=match d with
     | .int _=>match dL x with
       |some n=>if 0<=n/\n<=2 ^ 40/\n*i.bytes<=2 ^ 47 then some (eN p (n.toNat*i.size),n.toNat)else none
       |none=>none
     |_=>elems a i.size x
    match f with
    |some (f,m)=>match s with
     | .sc (.slice none 0 0)=>if m=0 then some (s,a)else if cH m i.bytes then some (.sref g 0 0 m i.size true,bH a g (some (.row f 0 false)))else none
     | .aN l n true=>if n*i.size<=l.length then(if m=0 then some (s,a)else if cH (n+m) i.bytes then some (.sref g 0 0 (n+m) i.size true,bH a g (some (.row (l.take (n*i.size)++f) 0 false)))else none)else none
     | .sref id j b n z true=>match a id with
       |some (.row l v false)=>if v=j/\z=i.size/\b+n*z<=l.length/\cH (n+m) i.bytes then
        if m=0 then some (s,a)
        else if b+(n+m)*z<=l.length then some (.sref id j b (n+m) z true,bH a id (some (.row (cS l (b+n*z) f) v false)))
        else some (.sref id (j+1) 0 (n+m) z true,bH a id (some (.row ((l.drop b).take (n*z)++f) (v+1) false)))
        else none
       |_=>none
     | .sref id j b n z false=>match a id with
       |some (.row l v _)=>if v=j/\z=i.size/\b+n*z<=l.length/\cH (n+m) i.bytes then
        if m=0 then some (s,a)
        else some (.sref g 0 0 (n+m) i.size true,bH a g (some (.row ((l.drop b).take (n*z)++f) 0 false)))
        else none
       |_=>none
     |_=>none
    |none=>none
    else none
   |_,_=>none
  |_,_=>none
 |_,_=>none
def yQ(P:Program)(a:Id->Option Ob)(b:Array TypeId)(d:List AV):Option (AV×(Id->Option Ob)):=
 match b.toList,d with
 |t::_,[s,x]=>match P.underlying t with
  |some (.slice e)=>match P.info? e with
   |some i=>match elems a i.size x with
    |some (g,m)=>match s with
     | .sref id h f n z _=>match a id with
       |some (.row j v false)=>if v=h/\z=i.size/\f+n*z<=j.length then
        let k:=Nat.min m n
        some (.sc (.int .i64 k),bH a id (some (.row (cS j f (g.take (k*z))) v false)))
        else none
       |_=>none
     | .sc (.slice none 0 0)=>some (.sc (.int .i64 0),a)
     |_=>none
    |none=>none
   |none=>none
  |_=>none
 |_,_=>none
def iL(l:List AV):Option (List Value):=
 match l with
 |[]=>some []
 |a::r=>match dO a,iL r with
  |some v,some b=>some (v::b)
  |_,_=>none
def LG(P:Program)(d f:TypeId)(a:Value):Option (List AV):=
 match a with
 | .string s=>match P.underlying d,P.underlying f with
   |some _,some (.slice e)=>match P.underlying e with
    |some (.int .u8)=>some (s.data.toList.map λb=>.sc (.int .u8 b.toNat))
    |_=>none
   |_,_=>none
 |_=>none
def oU(P:Program){α:Type}:Sem α->Prop
 | .pure _=>True
 | .program k=>oU P (k P)
 | .mark _ k=>oU P k
 | .choose q k=>if q.forced=true then oU P (k 0)else ∀t:Nat,oU P (k (q.cut t))
 |_=>False
def kV(P:Program){α:Type}:Sem α->α->Prop
 | .pure a,b=>a=b
 | .program k,b=>kV P (k P) b
 | .mark _ k,b=>kV P k b
 | .choose q k,b=>if q.forced=true then kV P (k 0) b else ∃t:Nat,kV P (k (q.cut t)) b
 |_,_=>False
def F5:AV->Value->Prop
 | .un p,v=>p v
 |a,v=>dO a=some v
def kQ:List AV->List Value->Prop
 |[],[]=>True
 |a::l,v::b=>F5 a v/\kQ l b
 |_,_=>False
def one1(v:Value):Prop:=v.cells=#[v]/\v.oneCell'=true/\∀b,v≠.bool b
def FC(q:Value->Prop):Option AV:=
 @dite _ (∃a,∀v,q v->v=a) (Classical.propDecidable _) (λh=>some (.sc (Classical.choose h))) (λ_=>@ite _ (∀v,q v->one1 v) (Classical.propDecidable _) (some (.un q)) none)
def tB(P:Program)(l:List AV)(s:List Value->Sem Value):Option AV:=
 @ite _ ((∃a,kQ l a)/\∀a,kQ l a->oU P (s a)) (Classical.propDecidable _) (FC λv=>∃a,kQ l a/\kV P (s a) v) none
def o7:AV->Bool
 | .un _=>true
 |a=>(dO a).isSome
def zL(P:Program)(d:BinOp)(t:TypeId)(x y:Operand)(a b:AV):Option AV:=
 match dO a,dO b with
 |some a,some b=>(bT P (do eqGuard d t x y a b;binOp d t a b)).map fJ
 |none,some (.slice none 0 0)=>match P.underlying t,a with
  |some (.slice _),.aN .. | some (.slice _),.sref ..=>match d with
   | .eql=>some (.sc (.bool false))
   | .neq=>some (.sc (.bool true))
   |_=>none
  |_,_=>none
 |none,some (.pointer none)=>match P.underlying t,a with
  |some (.pointer _),.ptr ..=>match d with
   | .eql=>some (.sc (.bool false))
   | .neq=>some (.sc (.bool true))
   |_=>none
  |_,_=>none
 |_,_=>none
def LJ(d:BinOp)(t:TypeId)(x y:Operand):List Value->Sem Value
 |[a,b]=>do eqGuard d t x y a b;binOp d t a b
 |_=>.pure undef
def bY(P:Program)(d:BinOp)(t:TypeId)(x y:Operand)(a b:AV):Option AV:=
 match zL P d t x y a b with
 |some r=>some r
 |none=>tB P [a,b] (LJ d t x y)
def zx(P:Program)(b:UnOp)(a:AV):Option AV:=
 match dO a with
 |some a=>(bT P (Op.unary b a)).map fJ
 |none=>none
def zw(b:UnOp):List Value->Sem Value
 |[a]=>Op.unary b a
 |_=>.pure undef
def BL(P:Program)(b:UnOp)(a:AV):Option AV:=
 match zx P b a with
 |some r=>some r
 |none=>tB P [a] (zw b)
def KU(P:Program)(b d:TypeId)(a:AV):Option AV:=
 match dO a with
 |some a=>match LG P b d a with
  |some e=>some (.aN e e.length false)
  |none=>(bT P (convert b d a)).map fJ
 |none=>none
def xf1(b d:TypeId):List Value->Sem Value
 |[a]=>convert b d a
 |_=>.pure undef
def mM(P:Program)(b d:TypeId)(a:AV):Option AV:=
 match KU P b d a with
 |some r=>some r
 |none=>tB P [a] (xf1 b d)
def biS(b:Builtin)(a:Array TypeId)(d:TypeId)(e:List Value):Sem Value:=
 match b with
 | .cap=>Builtin.cap_ a d e.toArray
 | .max=>Builtin.max_ a d e.toArray
 | .min=>Builtin.min_ a d e.toArray
 | .real=>Builtin.real_ a d e.toArray
 | .imag=>Builtin.imag_ a d e.toArray
 | .complex=>Builtin.complex_ a d e.toArray
 |_=>.halt (.stuck "")
def bi0(P:Program)(b:Builtin)(a:Array TypeId)(d:TypeId)(e:List AV):Option AV:=
 match iL e with
 |some f=>(bT P (biS b a d f)).map fJ
 |none=>none
def mN(P:Program)(b:Builtin)(a:Array TypeId)(d:TypeId)(e:List AV):Option AV:=
 match bi0 P b a d e with
 |some r=>some r
 |none=>tB P e (biS b a d)
def xfj:Next->Sem Value
 | .value u=>.pure u
 |_=>.halt (.stuck "")
def x1p(f:FuncId)(a:List Value):Sem Value:=callFunc f a.toArray >>= xfj
def U3(P:Program)(f:FuncId)(a:List AV):Option AV:=
 match iL a with
 |some b=>match bT P (callFunc f b.toArray)with
  |some (.value u)=>some (fJ u)
  |_=>none
 |none=>none
def w7(P:Program)(f:FuncId)(a:List AV):Option AV:=
 match U3 P f a with
 |some r=>some r
 |none=>tB P a (x1p f)
def KE(P:Program)(b:Id->Option Ob)(a:Array TypeId)(d:List AV):Option (AV×(Id->Option Ob)):=
 match a.toList,d with
 |[t],[s]=>match P.underlying t with
  |some (.slice C)=>match P.info? C,zeroCells P C with
   |some i,some z=>if z.length=i.size then match s with
    | .sc (.slice none _ _)=>some (.tup [],b)
    | .sref id f e n g _=>match b id with
      |some (.row h v false)=>if v=f/\g=i.size/\e+n*g<=h.length then some (.tup [],bH b id (some (.row (cS h e (eN z (n*i.size))) v false)))else none
      |_=>none
    |_=>none
    else none
   |_,_=>none
  |_=>none
 |_,_=>none
def gK(P:Program)(g:Id)(d:Id->Option Ob)(b:Builtin)(a:Array TypeId)(f:TypeId)(e:List AV):Option (AV×(Id->Option Ob)):=
 match b with
 | .append=>wH P g d a e
 | .copy=>yQ P d a e
 | .len=>match e with
   |[.aN _ n _]=>match P.underlying (a.getD 0 0)with
    |some (.slice _)=>if a.size=1 then some (.sc (.int .i64 n),d)else none
    |_=>none
   |[.sref _ _ _ n _ _]=>match P.underlying (a.getD 0 0)with
    |some (.slice _)=>if a.size=1 then some (.sc (.int .i64 n),d)else none
    |_=>none
   |[.mp id]=>match d id with
    |some (.map h)=>match P.underlying (a.getD 0 0)with
     |some (.map _ _)=>if a.size=1 then some (.sc (.int .i64 h.length),d)else none
     |_=>none
    |_=>none
   |_=>match iL e with
    |some i=>(bT P (Builtin.len_ a f i.toArray)).map λv=>(fJ v,d)
    |none=>none
 | .cap=>(mN P .cap a f e).map λv=>(v,d)
 | .max=>(mN P .max a f e).map λv=>(v,d)
 | .min=>(mN P .min a f e).map λv=>(v,d)
 | .real=>(mN P .real a f e).map λv=>(v,d)
 | .imag=>(mN P .imag a f e).map λv=>(v,d)
 | .complex=>(mN P .complex a f e).map λv=>(v,d)
 | .clear=>KE P d a e
 |_=>none
def xP:List Value->List Value->Bool
 |[],[]=>true
 | .int k a::r,.int d b::e=>(k == d&&a == b)&&xP r e
 |_,_=>false
def gO:Value->Value->Bool
 | .int k a,.int d b=>k == d&&a == b
 | .string a,.string b=>a == b
 | .bool a,.bool b=>a == b
 | .agg a,.agg b=>xP a.toList b.toList
 |_,_=>false
def findKey(k:Value):List (Value×AV)->Option AV
 |[]=>none
 |(a,v)::r=>if gO k a then some v else findKey k r
def setKey(k:Value)(v:AV):List (Value×AV)->List (Value×AV)
 |[]=>[(k,v)]
 |(a,b)::r=>if gO k a then(k,v)::r else(a,b)::setKey k v r
def uD(d:TypeDesc)(k:Value)(a:List (Value×AV)):Bool:=
 match d with
 | .int e=>(k::a.map (·.1)).all fun | .int b _=>b == e|_=>false
 | .string=>(k::a.map (·.1)).all fun | .string _=>true|_=>false
 | .bool=>(k::a.map (·.1)).all fun | .bool _=>true|_=>false
 |_=>false
def IJ(P:Program)(a:TypeId)(d:TypeDesc)(k:Value)(f:List (Value×AV)):Bool:=
 match d,k with
 | .struct _,.agg _ | .array _ _,.agg _=>gO k k&&((bT P (Instr.checkKey true 10000 a k)).isSome&&(bT P (Instr.checkKey false 10000 a k)).isSome) &&
  f.all λe=>match e.1,bT P (Op.equal a k e.1)with
   | .agg _,some b=>b == gO k e.1
   |_,_=>false
 |_,_=>false
def sJ(P:Program)(b:TypeId)(d:TypeDesc)(k:Value)(a:List (Value×AV)):Bool:=uD d k a||IJ P b d k a
def J3(P:Program)(t:TypeId):Option AV:=
 match P.info? t with
 |some i=>match i.zero with
  |some v=>some (fJ v)
  |none=>none
 |none=>none
def sG(a:Id->Option Ob):AV->Option (List (Value×AV))
 | .mp id=>match a id with
   |some (.map b)=>some b
   |_=>none
 | .sc (.map none)=>some []
 |_=>none
def AS:List AV->Option (List UInt8)
 |[]=>some []
 | .sc (.int .u8 n)::r=>(AS r).map (UInt8.ofNat n.toNat::·)
 |_=>none
def qG(P:Program)(b:Id->Option Ob)(d e:TypeId)(a:AV):Option ByteArray:=
 match P.underlying d,P.underlying e with
 |some (.slice C),some .string=>match P.underlying C with
  |some (.int .u8)=>match elems b 1 a with
   |some (f,_)=>(AS f).map λl=>⟨l.toArray⟩
   |none=>none
  |_=>none
 |_,_=>none
def LI(P:Program)(t:TypeId)(d:List AV):Option TypeId:=
 match d with
 |[.sc (.pointer none),.sc (.slice none 0 0)]=>match P.underlying t with
  |some (.struct f)=>match f.toList with
   |[a,b]=>if a.name = "addr"/\b.name = "buf" then(match P.underlying b.type with|some (.slice e)=>some e|_=>none)else none
   |_=>none
  |_=>none
 |_=>none
def aO(P:Program)(w:Id)(o:Oper)(sl:Nat->AV)(j:Id->Option Ob):Option (AV×(Id->Option Ob)):=
 let e:=ev sl
 match o.op with
 | .move x | .assign x=>some (e x,j)
 | .pick c a b=>match e c with
   | .sc (.bool t)=>some (if t then e a else e b,j)
   |_=>none
 | .alloc t=>match zeroCells P t with
   |some p=>match LI P t p with
    |some e=>some (.ptr w 0 0,bH j w (some (.bld t e [])))
    |none=>some (.ptr w 0 0,bH j w (some (.row p 0 false)))
   |none=>none
 | .box _ x=>if(e x).cells.all AV.one then some (.ptr w 0 0,bH j w (some (.row (e x).cells 0 false)))else none
 | .build t A=>match P.underlying t,zeroCells P t with
   |some (.struct N),some z=>match fieldsOf P N with
    |some J=>(rH (J[·]?) z (A.toList.map λ(i,x)=>(i,e x))).map λp=>(.agg p,j)
    |none=>none
   |some (.array _ C),some z=>match P.info? C with
    |some i=>(rH (λk=>some (k*i.size,i.size)) z (A.toList.map λ(k,x)=>(k,e x))).map λp=>(.agg p,j)
    |none=>none
   |_,_=>none
 | .buildSlice t len A=>match P.underlying t with
   |some (.slice C)=>match P.info? C,zeroCells P C with
    |some i,some z=>if len*i.size<=2 ^ 24/\z.length=i.size then
     match rH (λk=>some (k*i.size,i.size)) (eN z (len*i.size)) (A.toList.map λ(k,x)=>(k,e x))with
     |some p=>if !(p.all AV.one)then none else if p.all eM then some (.aN p len true,j)else some (.sref w 0 0 len i.size true,bH j w (some (.row p 0 false)))
     |none=>none
     else none
    |_,_=>none
   |_=>none
 | .load t a=>match ty P t with
   |some (g,z)=>match e a with
    | .aE p=>if p.isEmpty then none else(rd g z p).map λv=>(v,j)
    | .ptr id u r=>match j id with
      |some (.row p v _)=>if v=u then(rd g z (p.drop r)).map λv=>(v,j)else none
      |_=>none
    |_=>none
   |none=>none
 | .store t a x=>match ty P t with
   |some (_,z)=>match e a with
    | .ptr id u r=>match j id with
      |some (.row p v false)=>if v=u/\(e x).cells.length=z/\r+z<=p.length/\((e x).cells.all AV.one)then
       some (.sc undef,bH j id (some (.row (cS p r (e x).cells) v false)))else none
      |_=>none
    |_=>none
   |none=>none
 | .nilCheck x=>match e x with
   | .sc v=>match v with
     | .pointer none | .nilIface | .nilFunc | .func ..=>none
     |v=>some (.sc v,j)
   | .ptr id v o=>some (.ptr id v o,j)
   | .aE p=>some (.aE p,j)
   | .clo f p=>some (.clo f p,j)
   | .yld l=>some (.yld l,j)
   |_=>none
 | .binOp W t x y _=>(bY P W t x y (e x) (e y)).map λv=>(v,j)
 | .unOp W _ x=>(BL P W (e x)).map λv=>(v,j)
 | .convert O Q x=>match qG P j O Q (e x)with
   |some s=>some (.sc (.string s),j)
   |none=>(mM P O Q (e x)).map λv=>(v,j)
 | .makeFunc (.func f) first D=>if first.size=0 then some (.clo f (D.toList.map e),j)else none
 | .makeSlice t l c=>match P.underlying t with
   |some (.slice C)=>match P.info? C,zeroCells P C,dL (e l),dL (e c)with
    |some i,some z,some l,some c=>if 0<=l/\l<=c/\i.bytes*c<=2 ^ 47/\c<=2 ^ 47/\z.length=i.size then
     some (.sref w 0 0 l.toNat i.size true,bH j w (some (.row (eN z (c.toNat*i.size)) 0 false)))else none
    |_,_,_,_=>none
   |_=>none
 | .slice t x L K none=>
   match dO (e x)with
   |some v=>match iL (L.toList.map e),iL (K.toList.map e)with
    |some X,some Z=>(bT P (Instr.sliceAt t v (X[0]?) (Z[0]?) none)).map λv=>(fJ v,j)
    |_,_=>none
   |none=>match P.underlying t with
    |some (.slice C)=>match P.info? C,dL (match L with|some x=>e x|none=>.sc (.int .i64 0))with
     |some i,some l=>match e x with
      | .aN p n x=>match dL (match K with|some x=>e x|none=>.sc (.int .i64 n))with
        |some h=>if 0<=l/\l<=h/\h<=n/\n*i.size<=p.length then some (.aN ((p.drop (l.toNat*i.size)).take ((h-l).toNat*i.size)) (h-l).toNat (x&&decide (h=n)),j)else none
        |none=>none
      | .sref id u r n z F=>match dL (match K with|some x=>e x|none=>.sc (.int .i64 n))with
        |some h=>if 0<=l/\l<=h/\h<=n/\z=i.size/\(F=true\/h=n)then some (.sref id u (r+l.toNat*z) (h-l).toNat z F,j)else none
        |none=>none
      |_=>none
     |_,_=>none
    |some (.array n C)=>match P.info? C,dL (match L with|some x=>e x|none=>.sc (.int .i64 0)),dL (match K with|some x=>e x|none=>.sc (.int .i64 n))with
     |some i,some l,some h=>match e x with
      | .ptr id u r=>match j id with
        |some (.row p v _)=>if 0<=l/\l<=h/\h=n/\v=u/\r+n*i.size<=p.length then some (.sref id u (r+l.toNat*i.size) (h-l).toNat i.size false,j)else none
        |_=>none
      |_=>none
     |_,_,_=>none
    |_=>none
 | .slice t x L (some K) (some Y)=>
   match dO (e x)with
   |some v=>match iL (L.toList.map e),dO (e K),dO (e Y)with
    |some X,some h,some m=>(bT P (Instr.sliceAt t v (X[0]?) (some h) (some m))).map λv=>(fJ v,j)
    |_,_,_=>none
   |none=>match P.underlying t with
    |some (.slice C)=>match P.info? C,dL (match L with|some x=>e x|none=>.sc (.int .i64 0)),dL (e K),dL (e Y)with
     |some i,some l,some h,some m=>match e x with
      | .aN p n _=>if 0<=l/\l<=h/\h<=n/\m=h/\n*i.size<=p.length then some (.aN ((p.drop (l.toNat*i.size)).take ((h-l).toNat*i.size)) (h-l).toNat true,j)else none
      | .sref id u r n z _=>if 0<=l/\l<=h/\h<=n/\m=h/\z=i.size then some (.sref id u (r+l.toNat*z) (h-l).toNat z false,j)else none
      |_=>none
     |_,_,_,_=>none
    |_=>none
 | .makeInterface t x=>match dO (e x)with
   |some v=>(bT P (Instr.makeInterface t v)).map λv=>(fJ v,j)
   |none=>none
 | .sliceToArrayPointer t x=>match P.underlying t with
   |some (.array n _)=>match e x with
    | .aN p q _=>if 0<n/\n<=q then some (.aE p,j)else none
    | .sref id u r q _ _=>if 0<n/\n<=q then some (.ptr id u r,j)else none
    |_=>none
   |_=>none
 | .fieldAddr t x f=>match P.underlying t with
   |some (.struct N)=>match N[f]? with
    |some M=>match P.info? M.type with
     |some i=>if i.size=0 then none else match e x with
      | .ptr id u r=>some (.ptr id u (r+M.offset),j)
      | .aE p=>some (.aE (p.drop M.offset),j)
      |_=>none
     |none=>none
    |none=>none
   |_=>none
 | .field t x f=>match P.underlying t with
   |some (.struct N)=>match N[f]? with
    |some M=>match ty P M.type,e x with
     |some (g,z),.agg p=>(rd g z (p.drop M.offset)).map λv=>(v,j)
     |_,_=>none
    |none=>none
   |_=>none
 | .indexAddr t x ix=>match dL (e ix)with
   |some k=>match P.underlying t with
    |some (.slice C)=>match P.info? C with
     |some i=>match e x with
      | .aN p n _=>if 0<=k/\k<n then some (.aE (p.drop (k.toNat*i.size)),j)else none
      | .sref id u r n z _=>if 0<=k/\k<n/\z=i.size then some (.ptr id u (r+k.toNat*z),j)else none
      |_=>none
     |none=>none
    |some (.array n C)=>match P.info? C with
     |some i=>match e x with
      | .ptr id u r=>if 0<=k/\k<n then some (.ptr id u (r+k.toNat*i.size),j)else none
      | .aE p=>if 0<=k/\k<n then some (.aE (p.drop (k.toNat*i.size)),j)else none
      |_=>none
     |none=>none
    |_=>none
   |none=>none
 | .index t x ix=>match e x with
   | .agg p=>match dL (e ix),P.underlying t with
     |some k,some (.array n C)=>match ty P C with
      |some (g,z)=>if 0<=k/\k<n then(rd g z (p.drop (k.toNat*z))).map λv=>(v,j)else none
      |none=>none
     |_,_=>none
   | .sc v=>match dO (e ix)with
     |some k=>(bT P (Instr.index t v k)).map λv=>(fJ v,j)
     |none=>none
   |_=>none
 | .extract x i=>match e x with
   | .tup vs=>(vs[i]?).map λv=>(v,j)
   |_=>none
 | .makeMap _ none=>some (.mp w,bH j w (some (.map [])))
 | .lookup t x ix ok=>match P.underlying t,dO (e ix)with
   |some (.map H et),some k=>match P.underlying H,J3 P et with
    |some d,some zv=>
     match sG j (e x)with
     |some E=>if sJ P H d k E then some (if ok then .tup [(findKey k E).getD zv,.sc (.bool (findKey k E).isSome)]else(findKey k E).getD zv,j)else none
     |none=>none
    |_,_=>none
   |_,_=>none
 | .mapUpdate t m k x=>match P.underlying t,dO (e k),e m with
   |some (.map H _),some R,.mp id=>match P.underlying H,j id with
    |some d,some (.map E)=>if sJ P H d R E then some (.sc undef,bH j id (some (.map (setKey R (e x) E))))else none
    |_,_=>none
   |_,_,_=>none
 | .insert t m k x=>match P.underlying t,dO (e k),e m with
   |some (.map H _),some R,.mp id=>match P.underlying H,j id with
    |some d,some (.map E)=>if sJ P H d R E then some (.sc undef,bH j id (some (.map (setKey R (e x) E))))else none
    |_,_=>none
   |_,_,_=>none
 | .call c=>match c.callee with
   | .builtin b=>gK P w j b c.argTypes o.type (c.args.toList.map e)
   |_=>none
 |_=>none
def frz(b:Id->Option Ob):Nat->AV->Option AV
 |0,_=>none
 |k+1,a=>match a with
  | .sc v=>some (.sc v)
  | .agg d=>(d.mapM (frz b k)).map .agg
  | .tup d=>(d.mapM (frz b k)).map .tup
  | .aN d n x=>some (.aN d n x)
  | .aE d=>some (.aE d)
  | .un p=>some (.un p)
  | .sref id g e n z _=>match b id with
    |some (.row d v _)=>if v=g/\e+n*z<=d.length then(((d.drop e).take (n*z)).mapM (frz b k)).map λl=>.aN l n false else none
    |_=>none
  | .ptr id g e=>match b id with
    |some (.row d v _)=>if v=g then((d.drop e).mapM (frz b k)).map .aE else none
    |_=>none
  | .clo f d=>(d.mapM (frz b k)).map (.clo f)
  |_=>none
def reach(b:Id->Option Ob):Nat->AV->List Id
 |0,_=>[]
 |k+1,a=>match a with
  | .agg d | .tup d | .clo _ d=>d.flatMap (reach b k)
  | .sref id _ e n z _=>match b id with
    |some (.row d _ _)=>id::((d.drop e).take (n*z)).flatMap (reach b k)
    |_=>[id]
  | .ptr id _ e=>match b id with
    |some (.row d _ _)=>id::(d.drop e).flatMap (reach b k)
    |_=>[id]
  |_=>[]
def shut(b:List Id)(a:Id->Option Ob):Id->Option Ob:=λi=>
 if i∈b then(match a i with
  |some (.row d v _)=>some (.row d v true)
  |o=>o)
 else a i
abbrev Hs:=List (Id×(List AV->St->Option St))
def mD(a:Id->Option Ob)(id:Id):Bool:=
 bif Nat.beq id.2.2 0 then true else match a id with
 |some (.lp (some _))=>false
 |_=>true
def oC:Hs->Id->Option (List AV->St->Option St)
 |[],_=>none
 |(i,h)::r,id=>if i=id then some h else oC r id
abbrev Pol:=FuncId->Nat->Nat
structure Ctx where
 f:FuncId
 u:Nat
 nt:Nat
 hs:Hs
def pL:St:={aC:=λ_=>none,next:=0}
def bI:Nat:=6
def qS:AV->Bool
 | .sc _=>true
 | .agg a | .tup a=>a.all fun | .sc _=>true|_=>false
 |_=>false
def pH:AV->Bool
 | .sc _=>true
 |_=>false
def L9:AV->Bool
 | .sc _ | .sref ..=>true
 | .agg a | .tup a=>a.all fun | .sc _ | .sref ..=>true|_=>false
 |_=>false
def nm(a:Nat):Nat:=match a with
 |6=>0
 |7=>3
 |8=>4
 |m=>m
def sO:Op->Bool
 | .move _ | .assign _ | .pick .. | .binOp .. | .unOp .. | .convert .. | .sliceToArrayPointer .. | .fieldAddr .. | .field .. | .indexAddr .. | .index .. | .extract .. | .build .. | .nilCheck _ | .makeFunc ..=>true
 | .load .. | .lookup .. | .slice ..=>true
 | .call c=>match c.callee with
   | .builtin .len | .builtin .min | .builtin .max | .builtin .cap | .builtin .real | .builtin .imag | .builtin .complex=>true
   |_=>false
 |_=>false
def wM:Op->Bool
 | .alloc _ | .box _ _ | .makeSlice .. | .makeMap .. | .buildSlice ..=>true
 |_=>false
def yU:Op->Bool
 | .move _ | .assign _ | .pick .. | .binOp .. | .unOp .. | .convert .. | .sliceToArrayPointer .. | .fieldAddr .. | .field .. | .indexAddr .. | .index .. | .extract .. | .build .. | .nilCheck _ | .makeFunc ..=>true
 | .call c=>match c.callee with
   | .builtin .len | .builtin .min | .builtin .max | .builtin .cap | .builtin .real | .builtin .imag | .builtin .complex=>true
   |_=>false
 |_=>false
def tP(a:Nat)(x:Oper)(y:Op):Bool:=
 (match x.op with
 | .call {callee:=.value (.func _),.. }=>true
 |_=>false)&&((wM y&&(Nat.beq a 6||Nat.beq a 7||Nat.beq a 8))||(sO y&&(Nat.beq a 6||Nat.beq a 7))||((wM y||yU y)&&Nat.beq a 9))
def gJ(e:Hs->FuncId->List AV->St->Option (AV×St))(Z:Hs)(g:Nat)(m:AV)(a:List AV)(st:St):Option (AV×St):=
 match m with
 | .clo f d=>
   match g with
   |0=>match (a++d).mapM (frz st.aC bI)with
    |some l=>match e [] f l pL with
     |some (r,b)=>(frz b.aC bI r).map λr=>(r,{st with aC:=shut ((a++d).flatMap (reach st.aC bI)) st.aC})
     |none=>none
    |none=>none
   |3=>match (a++d).mapM (frz st.aC bI)with
    |some l=>match e [] f l pL with
     |some (r,_)=>if qS r then some (r,st)else none
     |none=>none
    |none=>none
   |4=>match (a++d).mapM (frz st.aC bI)with
    |some l=>match e [] f l {aC:=λ_=>none,next:=st.next}with
     |some (r,b)=>
      let j:=reach b.aC bI r
      if L9 r&&j.all (λi=>decide (st.next<=i.1)&&match b.aC i with|some (.row n _ false)=>n.all pH|_=>false)then
       some (r,{aC:=λi=>if i∈j then b.aC i else st.aC i,next:=b.next})
      else none
     |none=>none
    |none=>none
   |1=>if(a++d).all clean then match e [] f (a++d) {aC:=λ_=>none,next:=st.next}with
     |some (r,b)=>some (r,{aC:=λi=>if st.next<=i.1 then b.aC i else st.aC i,next:=b.next})
     |none=>none
    else none
   |_=>e Z f (a++d) st
 | .yld id=>match oC Z id with
   |some h=>(h a st).map λb=>(.sc (.bool (mD b.aC id)),b)
   |none=>none
 |_=>none
def sN(u Y:Nat)(id:Id):Bool:=Nat.beq id.1 u&&Nat.ble Y id.2.1
def wK(u Y:Nat)(st:St):St:={st with aC:=λid=>if sN u Y id=true then none else st.aC id}
def LM(u Y:Nat)(st a:St):St:={a with aC:=λid=>if sN u Y id=true then st.aC id else a.aC id}
def kW(a:Hs->FuncId->List AV->St->Option (AV×St))(u Y:Nat)(Z:Hs)(b:Nat)(h:AV)(d:List AV)(st:St):Option (AV×St):=
 if b=9 then
  match h with
  | .clo f e=>match a [] f (d++e) (wK u Y st)with
    |some (r,g)=>some (r,LM u Y st g)
    |none=>none
  |_=>none
 else gJ a Z b h d st
def put(c:Ctx)(a:Option Tmp)(v:AV)(s:S):Option S:=
 match a with
 |some d=>if d<c.nt then some {s with sl:=tM s.sl d v}else none
 |none=>some s
def mZ(d:Array Oper)(o:Oper)(e:Nat->AV):Bool:=
 match o.guard with
 |none=>true
 |some (j,a)=>match (d[j]?).bind (·.dst)with
  |some t=>match e t with
   | .sc (.bool b)=>b == a
   |_=>false
  |none=>false
def pG(P:Program)(a:AV)(b:String):Option (FuncId×AV):=
 match a with
 | .sc (.iface t v)=>(bT P (method (P.types.size+Made.depth) t v b)).map λp=>(p.1,fJ p.2)
 |_=>none
def jH(P:Program)(pol:Pol)(b:Hs->FuncId->List AV->St->Option (AV×St))(c:Ctx)(g:Array Oper)(i:Nat)(s:S):Option S:=
 match g[i]? with
 |none=>some s
 |some o=>
  if mZ g o s.sl then
   match o.op with
   | .call {callee:=.value j,args,.. }=>
     match kW b c.u s.fc c.hs (nm (pol c.f (o.dst.getD 0))) (ev s.sl j) (args.toList.map (ev s.sl)) s.st with
     |some (v,d)=>put c o.dst v {s with st:=d}
     |none=>none
   | .call {callee:=.invoke rv h,args,.. }=>
     match pG P (ev s.sl rv) h with
     |some (f,r)=>match gJ b c.hs (nm (pol c.f (o.dst.getD 0))) (.clo f []) (r::args.toList.map (ev s.sl)) s.st with
      |some (v,d)=>put c o.dst v {s with st:=d}
      |none=>none
     |none=>none
   |_=>match aO P (c.u,s.fc+i,o.dst.getD 0) o s.sl s.st.aC with
    |some (v,e)=>put c o.dst v {s with st:={s.st with aC:=e}}
    |none=>none
  else put c o.dst (.sc undef) s
def iT(P:Program)(pol:Pol)(a:Hs->FuncId->List AV->St->Option (AV×St))(c:Ctx)(b:Array Oper):List Nat->S->Option S
 |[],s=>some s
 |i::r,s=>match jH P pol a c b i s with
  |some d=>iT P pol a c b r d
  |none=>none
def uV(b:Array Oper):List (List Nat):=
 b.toList.foldl (λa o=>a++[(o.after.toList.filter (Region.binds .any)).flatMap λe=>e.on::a.getD e.on []]) []
def dV(d:Id)(o:Oper)(e:Nat->AV):Option (List Id)×Option (List Id):=
 match o.op with
 | .load _ a=>match ev e a with
   | .ptr id _ _=>(some [id],some [])
   |_=>(some [],some [])
 | .store _ a _=>match ev e a with
   | .ptr id _ _=>(some [],some [id])
   |_=>(none,none)
 | .alloc _ | .box _ _ | .makeSlice .. | .makeMap .. | .buildSlice ..=>(some [],some [d])
 | .lookup _ x _ _=>match ev e x with
   | .mp id=>(some [id],some [])
   |_=>(some [],some [])
 | .slice _ x _ _ _=>match ev e x with
   | .ptr id _ _=>(some [id],some [])
   |_=>(some [],some [])
 | .move _ | .assign _ | .pick .. | .binOp .. | .unOp .. | .convert .. | .sliceToArrayPointer .. | .fieldAddr .. | .field .. | .indexAddr .. | .index .. | .extract .. | .build .. | .nilCheck _ | .makeFunc ..=>(some [],some [])
 | .call c=>match c.callee with
   | .builtin b=>
     let f:=match c.args.toList with
      |[_,x]=>match ev e x with
       | .sref id ..=>some [id]
       | .aN .. | .sc _=>some []
       |_=>none
      |_=>none
     match b with
     | .len | .min | .max | .cap | .real | .imag | .complex=>(some [],some [])
     | .append=>(f,match c.args.toList with
       |[s,_]=>match ev e s with
        | .sref id _ _ _ _ true=>some [id]
        | .sref id _ _ _ _ false=>some [id,d]
        | .aN .. | .sc _=>some [d]
        |_=>none
       |_=>none)
     | .copy=>(f,match c.args.toList with
       |[s,_]=>match ev e s with
        | .sref id ..=>some [id]
        | .sc _=>some []
        |_=>none
       |_=>none)
     |_=>(none,none)
   |_=>(none,none)
 |_=>(none,none)
def fV(o:Oper):Bool:=
 match o.op with
 | .call {callee:=.value _,.. }=>true
 |_=>false
def gV(a:Nat)(o:Oper)(b:Nat->AV):Nat:=
 match o.op with
 | .call c=>match c.callee with
   | .value d=>match ev b d with
     | .clo _ e=>if a=3\/a=4 then 1 else if a<=1/\(c.args.toList.map (ev b)++e).all clean=true then 2 else 0
     |_=>0
   |_=>0
 |_=>0
def kX(a b:List Id):Bool:=a.all λi=>!(b.contains i)
def aW(x y:Option (List Id)×Option (List Id)):Bool:=
 match x,y with
 |(some [],some []),_=>true
 |_,(some [],some [])=>true
 |(some r,some w),(some b,some a)=>kX r a&&kX b w&&kX w a
 |_,_=>false
def quiet:Op->Bool
 | .move _ | .assign _ | .pick .. | .binOp .. | .unOp .. | .convert .. | .sliceToArrayPointer .. | .fieldAddr .. | .field .. | .indexAddr .. | .index .. | .extract .. | .build .. | .nilCheck _ | .makeFunc ..=>true
 | .alloc _ | .box _ _ | .makeSlice .. | .makeMap .. | .buildSlice ..=>true
 | .call c=>match c.callee with
   | .builtin .len | .builtin .min | .builtin .max | .builtin .cap | .builtin .real | .builtin .imag | .builtin .complex=>true
   |_=>false
 |_=>false
def B'(P:Program)(o:Op):Bool:=
 match o with
 | .convert a b _=>match P.underlying a,P.underlying b with
   |some (.slice _),some .string=>true
   |_,_=>false
 |_=>false
def xV(P:Program)(o:Op):Bool:=quiet o&&!(B' P o)
def late(P:Program)(a:Array Oper)(i j:Nat):Bool:=
 match a[i]?,(a[j]?).bind (·.dst)with
 |some x,some d=>xV P x.op||!(x.looksAt a).contains d
 |_,_=>true
def sY(a:Nat)(b:Option Nat)(d:Id)(x y:Oper)(e:Nat->AV):Bool:=
 !(fV y)&&(match dV d y e with
 |(some r,some f)=>(match b with|some n=>(r++f).all (decide <| ·.1<n)|none=>true)&&(gV a x e == 2||(gV a x e == 1&&f.isEmpty))
 |_=>false)
def pairOK(pol:Pol)(c:Ctx)(Y a:Nat)(b:Array Oper)(i j:Nat)(d:Nat->AV):Bool:=
 match b[i]?,b[j]? with
 |some x,some y=>x.apart b y&&(tP (pol c.f (x.dst.getD 0)) x y.op||tP (pol c.f (y.dst.getD 0)) y x.op ||
  (if fV x then sY (nm (pol c.f (x.dst.getD 0))) (some a) (c.u,Y+j,y.dst.getD 0) x y d
   else if fV y then sY (nm (pol c.f (y.dst.getD 0))) none (c.u,Y+i,x.dst.getD 0) y x d
   else aW (dV (c.u,Y+i,x.dst.getD 0) x d) (dV (c.u,Y+j,y.dst.getD 0) y d)))
 |_,_=>false
def F0(P:Program)(pol:Pol)(c:Ctx)(Y d:Nat)(a:Array Oper)(e:Nat->AV):Bool:=
 let b:=uV a
 (List.range a.size).all λj=>late P a j j&&(b.getD j []).all (decide <| · < j)&&(List.range j).all λi=>late P a i j&&((b.getD j []).contains i||pairOK pol c Y d a i j e)
def xec:AV->Bool
 | .sref ..=>true
 |_=>false
def mapLen(P:Program)(o:Oper)(d:Nat->AV):Bool:=
 match o.op with
 | .call c=>match c.callee with
   | .builtin .len=>match P.underlying (c.argTypes.getD 0 0)with
     |some (.map _ _)=>true
     |_=>false
   | .invoke ..=>true
   |_=>false
 | .convert a b x=>match P.underlying a,P.underlying b with
   |some (.slice _),some .string=>xec (ev d x)
   |_,_=>false
 |_=>false
def yM(P:Program)(a:Array Oper)(b:Nat->AV):Bool:=a.toList.any λo=>mapLen P o b
def rC(P:Program)(pol:Pol)(b:Hs->FuncId->List AV->St->Option (AV×St))(c:Ctx)(a:Array Oper)(d:Bool)(s:S):Option S:=
 match iT P pol b c a (List.range a.size) s with
 |some e=>if d&&!(!(yM P a e.sl)&&F0 P pol c s.fc s.st.next a e.sl)then none else some {e with fc:=s.fc+a.size}
 |none=>none
def mF(d:List Tmp)(b:List AV)(e:Nat->AV):Nat->AV:=
 match d,b with
 |p::d,a::f=>mF d f (tM e p a)
 |_,_=>e
def oB:List Nat->Code->Bool
 |_,.ret=>true
 |l,.exit id=>!(l.any (Nat.beq id))
 |l,.seq a b=>oB l a||oB l b
 |l,.cond _ a b=>oB l a||oB l b
 |l,.block id b=>oB (id::l) b
 |l,.loop b=>oB l b
 |l,.rangeFunc _ _ a b=>oB l a||oB l b
 |_,_=>false
def mP(e:Ctx->Code->S->Option (Out×S))(c:Ctx)(id:Id)(a:Array Tmp)(b f:Code)(h:Nat->AV):List AV->St->Option St:=λd st=>
 if d.length=a.size/\a.all (· < c.nt)then
  match e {c with u:=st.next} b {sl:=mF a.toList d h,st:={st with next:=st.next+1},fc:=0}with
  |some (.normal,i)=>match i.st.aC id with
   |some (.lp none)=>match e {c with u:=st.next} f i with
    |some (o,g)=>match g.st.aC id with
     |some (.lp none)=>match o with
      | .normal=>some g.st
      |o=>some {g.st with aC:=bH g.st.aC id (some (.lp (some o)))}
     |_=>none
    |none=>none
   |_=>none
  |_=>none
 else none
def gF(P:Program)(pol:Pol)(i:Ctx->Code->S->Option (Out×S))(d:Hs->FuncId->List AV->St->Option (AV×St))(c:Ctx):Code->S->Option (Out×S)
 | .skip,s=>some (.normal,s)
 | .region _ A w,s=>(rC P pol d c A w s).map λn=>(.normal,n)
 | .seq a b,s=>match gF P pol i d c a s with
   |some (.normal,n)=>gF P pol i d c b n
   |r=>r
 | .cond x a b,s=>match ev s.sl x with
   | .sc (.bool true)=>gF P pol i d c a s
   | .sc (.bool false)=>gF P pol i d c b s
   |_=>none
 | .block id b,s=>match gF P pol i d c b s with
   |some (.exit y,n)=>if y=id then some (.normal,n)else some (.exit y,n)
   |r=>r
 | .loop b,s=>match gF P pol i d c b s with
   |some (.normal,n)=>i c (.loop b) n
   |r=>r
 | .exit id,s=>some (.exit id,s)
 | .ret,s=>some (.ret,s)
 | .rangeFunc f e j l,s=>match ev s.sl f with
   | .clo g t=>
     if oB [] l then
      match d (((c.u,s.fc,1),mP i c (c.u,s.fc,1) e j l s.sl)::c.hs) g (.yld (c.u,s.fc,1)::t) {s.st with aC:=bH s.st.aC (c.u,s.fc,1) (some (.lp none))}with
      |some (_,m)=>match m.aC (c.u,s.fc,1)with
       |some (.lp none)=>some (.normal,{s with st:=m,fc:=s.fc+1})
       |some (.lp (some o))=>some (o,{s with st:=m,fc:=s.fc+1})
       |_=>none
      |none=>none
     else
     let h:List AV->St->Option St:=λp st=>
      if p.length=e.size/\e.all (· < c.nt)then
       let c':={c with u:=st.next}
       let C:S:={sl:=mF e.toList p s.sl,st:={st with next:=st.next+1},fc:=0}
       match i c' j C with
       |some (.normal,D)=>match i c' l D with
        |some (.normal,E)=>some E.st
        |_=>none
       |_=>none
      else none
     match d (((c.u,s.fc,0),h)::c.hs) g (.yld (c.u,s.fc,0)::t) s.st with
     |some (_,m)=>some (.normal,{s with st:=m,fc:=s.fc+1})
     |none=>none
   |_=>none
 |_,_=>none
def iP:Nat:=1000000
def wP(v:Value):Prop:=∃t x,v=.iface t x
def eW:Nat->Nat->List UInt8
 |0,_=>[]
 |k+1,u=>if u<10 then[UInt8.ofNat (48+u)]else eW k (u / 10)++[UInt8.ofNat (48+u % 10)]
def dI(n:Int):List UInt8:=if n<0 then 45::eW 20 n.natAbs else eW 20 n.toNat
def rQ(k:Nat)(a:List AV):Option AV:=
 match k,a with
 |1,[.sc (.int .i64 n)]=>if -9223372036854775808<=n/\n<=9223372036854775807 then some (.sc (.string ⟨(dI n).toArray⟩))else none
 |2,[.sc (.string s)]=>if s.size<=1000000 then match Lib.atoiAll s.data.toList with
  | .ok v=>some (.tup [.sc (.int .i64 v),.sc .nilIface])
  | .range=>some (.tup [.sc (.int .i64 (Lib.atoiSat s.data.toList)),.un wP])
  |_=>some (.tup [.sc (.int .i64 0),.un wP])
  else none
 |_,_=>none
def xej:List AV->Option (List Int)
 |[]=>some []
 | .sc (.int .i64 n)::r=>(xej r).map λl=>n::l
 |_::_=>none
def XJ(b:List AV)(d:Id->Option Ob):Option (Id×Ob):=
 match b with
 |[.sref id e a n z _]=>match d id with
  |some (.row f v false)=>if v=e/\z=1/\0<n/\a+n<=f.length/\n<4611686018427387904 then
   (xej ((f.drop a).take n)).map λl=>(id,.row (cS f a ((l.mergeSort λx y=>decide (x<=y)).map λx=>.sc (.int .i64 x))) v false)
   else none
  |_=>none
 |_=>none
def ci(s:Int×Int×Int)(x:Int×Int):Int×Int×Int:=if s.2.1<x.2\/(x.2=s.2.1/\x.1<s.1)then(x.1,x.2,s.2.2+x.2)else(s.1,s.2.1,s.2.2+x.2)
def xf7:List (Value×AV)->Option (List (Int×Int))
 |[]=>some []
 |(.int .i64 n,.sc (.int .i64 c))::r=>(xf7 r).map λl=>(n,c)::l
 |_::_=>none
def xae:List AV->Option (List ByteArray)
 |[]=>some []
 | .sc (.string s)::r=>(xae r).map λl=>s::l
 |_::_=>none
def ag(a:List UInt8):List (List UInt8)->List UInt8
 |[]=>[]
 |[x]=>x
 |x::r=>x++(a++ag a r)
def xmw(a:Id->Option Ob):List AV->Option AV
 |[.mp id]=>match a id with
  |some (.map b)=>match xf7 b with
   |some l=>if(l.all λx=>decide (0<=x.2/\x.2<=4294967296))=true/\l.length<=1048576 then some (.tup [.sc (.int .i64 (l.foldl ci (0,0,0)).1),.sc (.int .i64 ((l.foldl ci (0,0,0)).2.2-(l.foldl ci (0,0,0)).2.1))])else none
   |none=>none
  |_=>none
 |_=>none
def xmv(b:Id->Option Ob):List AV->Option AV
 |[a,.sc (.string d)]=>match elems b 1 a with
  |some (e,n)=>match xae e with
   |some l=>if(ag d.data.toList (l.map (·.data.toList))).length<=1099511627776/\n<=1099511627776 then some (.sc (.string ⟨(ag d.data.toList (l.map (·.data.toList))).toArray⟩))else none
   |none=>none
  |none=>none
 |_=>none
def XI(t e:TypeId)(a:Id->Option Ob):List AV->Option AV
 |[.ptr id 0 0]=>match a id with
  |some (.bld b d l)=>if b=t/\d=e/\l.length<=1099511627776 then some (.sc (.string ⟨l.toArray⟩))else none
  |_=>none
 |_=>none
def XH(t e:TypeId)(a:Id->Option Ob):List AV->Option (AV×Id×Ob)
 |[.ptr id 0 0,.sc (.string s)]=>match a id with
  |some (.bld b d l)=>if b=t/\d=e/\l.length+s.size<=1099511627776 then some (.tup [.sc (.int .i64 s.size),.sc .nilIface],id,.bld t e (l++s.data.toList))else none
  |_=>none
 |_=>none
def XG(k:Nat)(a:List AV)(b:Id->Option Ob):Option AV:=bif Nat.beq k 4 then xmw b a else xmv b a
def AX(k:Nat)(a:List AV)(st:St):Option (AV×St):=
 bif Nat.beq k 3 then(XJ a st.aC).map λp=>(.tup [],{st with aC:=bH st.aC p.1 (some p.2)})else bif Nat.ble 16 k then(bif Nat.beq (k % 2) 0 then(XI (k / 2000) (k / 2 % 1000) st.aC a).map λv=>(v,{st with aC:=λ_=>none})else(XH (k / 2000) (k / 2 % 1000) st.aC a).map λp=>(p.1,{st with aC:=bH st.aC p.2.1 (some p.2.2)}))else bif Nat.ble 4 k then(XG k a st.aC).map λv=>(v,st)else(rQ k a).map λv=>(v,st)
def qP(P:Program)(e:List ResultVar)(s:S):Option (List AV):=
 match e with
 |[]=>some []
 | .tmp t::r=>match qP P r s with
   |some l=>some (s.sl t::l)
   |none=>none
 | .cell a t::r=>match ty P t,s.sl a with
   |some (g,z),.ptr id b d=>match s.st.aC id with
    |some (.row f v _)=>if v=b then match rd g z (f.drop d),qP P r s with
     |some v,some l=>some (v::l)
     |_,_=>none
     else none
    |_=>none
   |_,_=>none
def nJ(a:List AV):Nat->AV:=λt=>a.getD t (.sc undef)
def sK(P:Program)(pol:Pol)(b:Ctx->Code->S->Option (Out×S))(Z:Hs)(f:FuncId)(a:List AV)(st:St):Option (AV×St):=
 if pol f iP≠0 then AX (pol f iP) a st else
 match P.funcs[f]? with
 |some fn=>match fn.body with
  |some d=>if fn.name≠"runtime.NumGoroutine"/\a.length<=fn.ntmps then
   match b {f:=f,u:=st.next,nt:=fn.ntmps,hs:=Z} d {sl:=nJ a,st:={st with next:=st.next+1},fc:=0}with
   |some (.exit _,_)=>none
   |some (_,e)=>match qP P fn.results.toList e with
    |some [v]=>some (v,e.st)
    |some l=>some (.tup l,e.st)
    |none=>none
   |none=>none
   else none
  |none=>(w7 P f a).map λv=>(v,st)
 |none=>none
def ix(P:Program)(pol:Pol):Nat->Ctx->Code->S->Option (Out×S)
 |0=>λ_ _ _=>none
 |n+1=>gF P pol (ix P pol n) (sK P pol (ix P pol n))
def gH(P:Program)(pol:Pol)(n:Nat):Hs->FuncId->List AV->St->Option (AV×St):=sK P pol (ix P pol n)
def HLe:Hs->Hs->Prop
 |[],[]=>True
 |(i,h)::r,(j,g)::q=>i=j/\(∀a st b,h a st=some b->g a st=some b)/\HLe r q
 |_,_=>False
def HLe.refl:∀Z:Hs,HLe Z Z
 |[]=>trivial
 |(_,_)::r=>⟨rfl,λ_ _ _ h=>h,HLe.refl r⟩
def d5(d b:Hs->FuncId->List AV->St->Option (AV×St)):Prop:=∀Z e f a st r,HLe Z e->d Z f a st=some r->b e f a st=some r
def LX(b a:Ctx->Code->S->Option (Out×S)):Prop:=∀(c:Ctx) hs' code s r,HLe c.hs hs'->b c code s=some r->a {c with hs:=hs' } code s=some r
section
variable{P:Program}{pol:Pol}{call call':Hs->FuncId->List AV->St->Option (AV×St)}{low low':Ctx->Code->S->Option (Out×S)}
def ar:∀{Z b:Hs} {id:Id} {h:List AV->St->Option St},HLe Z b->oC Z id=some h->∃g,oC b id=some g/\∀a st d,h a st=some d->g a st=some d
 |[],[],_,_,_,e=>by simp[oC]at e
 |(i,p)::r,(j,o)::q,id,h,l,e=>by
  obtain⟨rfl,m,n⟩:=l;simp only[oC]at e ⊢;split at e
  .rename_i f;cases e;rw[aF f];exact⟨o,rfl,m⟩
  .rename_i f;rw[aB f];exact ar n e
 |[],_::_,_,_,h,_=>h.elim
 |_::_,[],_,_,h,_=>h.elim
def xeg(d:d5 call call'){Z i:Hs}(m:HLe Z i){a:Nat}{j:AV}{b:List AV}{st:St}{r:AV×St}(h:gJ call Z a j b st=some r):gJ call' i a j b st=some r:=by
 cases j with
 |clo f n=>
  simp only[gJ]at h ⊢;split at h
  .split at h
   .split at h
    .rename_i e;simp only[d _ _ _ _ _ _ (HLe.refl []) e];exact h
    .cases h
   .cases h
  .split at h
   .split at h
    .rename_i e;simp only[d _ _ _ _ _ _ (HLe.refl []) e];exact h
    .cases h
   .cases h
  .split at h
   .split at h
    .rename_i e;simp only[d _ _ _ _ _ _ (HLe.refl []) e];exact h
    .cases h
   .cases h
  .split at h
   .rename_i l;rw[aF l];split at h
    .rename_i e;simp only[d _ _ _ _ _ _ (HLe.refl []) e];exact h
    .cases h
   .cases h
  .exact d _ _ _ _ _ _ m h
 |yld id=>
  simp only[gJ]at h ⊢;split at h
  .rename_i g o;obtain⟨y,p,t⟩:=ar m o;simp only[cE]at h;obtain⟨u,w,x⟩:=h;simp only[p,t _ _ _ w,Option.map_some,x]
  .cases h
 |_=>simp[gJ]at h
def x0a(g:d5 call call'){Z d:Hs}(j:HLe Z d){u Y a:Nat}{i:AV}{b:List AV}{st:St}{r:AV×St}(h:kW call u Y Z a i b st=some r):kW call' u Y d a i b st=some r:=by
 unfold kW at h ⊢;split at h
 .rename_i f;rw[aF f];split at h
  .split at h
   .rename_i e;simp only[g _ _ _ _ _ _ (HLe.refl _) e];exact h
   .cases h
  .cases h
 .rename_i f;rw[aB f];exact xeg g j h
def xag(f:d5 call call'){c:Ctx}{a:Hs}(g:HLe c.hs a){b:Array Oper}{i:Nat}{s j:S}(h:jH P pol call c b i s=some j):jH P pol call' {c with hs:=a} b i s=some j:=by
 unfold jH at h ⊢;split at h
 .exact h
 .split at h
  .rename_i d;rw[aF d];split at h
   .split at h
    .rename_i e;simp only[x0a f g e];exact h
    .cases h
   .split at h
    .rename_i l;simp only
     split at h
     .rename_i e;simp only[xeg f g e];exact h
     .cases h
    .cases h
   .exact h
  .rename_i d;rw[aB d];exact h
def YJ(f:d5 call call'){c:Ctx}{a:Hs}(g:HLe c.hs a){b:Array Oper}:∀{L:List Nat} {s d:S},iT P pol call c b L s=some d->iT P pol call' {c with hs:=a} b L s=some d
 |[],_,_,h=>h
 |i::L,s,d,h=>by
  simp only[iT]at h ⊢;split at h
  .rename_i e;simp only[xag f g e];exact YJ f g h
  .cases h
def xbo(g:d5 call call'){c:Ctx}{b:Hs}(i:HLe c.hs b){d:Array Oper}{a:Bool}{s f:S}(h:rC P pol call c d a s=some f):rC P pol call' {c with hs:=b} d a s=some f:=by
 unfold rC at h ⊢;split at h
 .rename_i e;simp only[YJ g i e];exact h
 .cases h
def xev(i:LX low low'){c:Ctx}{d:Hs}(j:HLe c.hs d){id:Id}{l:Array Tmp}{a b:Code}{m:Nat->AV}{e:List AV}{st g:St}(h:mP low c id l a b m e st=some g):mP low' {c with hs:=d} id l a b m e st=some g:=by
 unfold mP at h ⊢;split at h
 .rename_i f;rw[aF f];split at h
  .rename_i w r;have n:=i {c with u:=st.next} d _ _ _ j r;simp only at n ⊢;rw[n];simp only
   split at h
   .split at h
    .rename_i o x t;have p:=i {c with u:=st.next} d _ _ _ j t;simp only at p;rw[p];exact h
    .cases h
   .cases h
  .cases h
 .cases h
def uT(t:d5 call call')(p:LX low low'):∀(A:Code) {c:Ctx} {d:Hs} {s:S} {r:Out×S},HLe c.hs d->gF P pol low call c A s=some r->gF P pol low' call' {c with hs:=d} A s=some r
 | .skip,_,_,_,_,_,h=>h
 | .region id ops Y,c,d,s,r,j,h=>by simp only[gF,cE]at h ⊢;obtain⟨E,h1,w⟩:=h;exact⟨E,xbo t j h1,w⟩
 | .seq a b,c,d,s,r,j,h=>by
   simp only[gF]at h ⊢;split at h
   .rename_i e;simp only[uT t p a j e];exact uT t p b j h
   .rename_i F;rw[uT t p a j h];obtain⟨o,E⟩:=r;cases o with
    |normal=>exact absurd h (F E)
    |_=>rfl
 | .cond x a b,c,d,s,r,j,h=>by
   simp only[gF]at h ⊢;split at h
   .exact uT t p a j h
   .exact uT t p b j h
   .cases h
 | .block id b,c,d,s,r,j,h=>by
   simp only[gF]at h ⊢;split at h
   .rename_i e;simp only[uT t p b j e];exact h
   .rename_i F;rw[uT t p b j h];obtain⟨o,E⟩:=r;cases o with
    |exit N=>exact absurd h (F N E)
    |_=>rfl
 | .loop b,c,d,s,r,j,h=>by
   simp only[gF]at h ⊢;split at h
   .rename_i e;simp only[uT t p b j e];exact p _ _ _ _ _ j h
   .rename_i F;rw[uT t p b j h];obtain⟨o,E⟩:=r;cases o with
    |normal=>exact absurd h (F E)
    |_=>rfl
 | .exit _,_,_,_,_,_,h=>h
 | .ret,_,_,_,_,_,h=>h
 | .rangeFunc f i l y,c,d,s,r,j,h=>by
   simp only[gF]at h ⊢;split at h
   .rename_i g O e;split at h
    .rename_i C;rw[aF C];split at h
     .rename_i r0 L m;have:=t _ _ _ _ _ _ (show HLe (((c.u,s.fc,1),mP low c (c.u,s.fc,1) i l y s.sl)::c.hs) (((c.u,s.fc,1),mP low' {c with hs:=d} (c.u,s.fc,1) i l y s.sl)::d)from⟨rfl,λn st K w=>xev p j w,j⟩) m;simp only[this];exact h
     .cases h
    .rename_i C;rw[aB C];split at h
     .rename_i r0 L m
      have M:=λ(J:HLe _ ((((c.u,s.fc,0):Id),λn st=>
       if n.length=i.size/\i.all (· < c.nt)then
        match low' {c with hs:=d,u:=st.next} l {sl:=mF i.toList n s.sl,st:={st with next:=st.next+1},fc:=0}with
        |some (.normal,Q)=>match low' {c with hs:=d,u:=st.next} y Q with
         |some (.normal,R)=>some R.st
         |_=>none
        |_=>none
       else none)::d))=>t _ _ _ _ _ _ J m
      have:=M ⟨rfl,λn st K w=>(by
       simp only at w ⊢
       split at w
       .rename_i D
        rw[aF D]
        split at w
        .rename_i Q Z
         have W:=p {c with u:=st.next} d _ _ _ j Z
         simp only at W ⊢
         rw[W]
         simp only
         split at w
         .rename_i R H
          have X:=p {c with u:=st.next} d _ _ _ j H
          simp only at X
          rw[X]
          exact w
         .cases w
        .cases w
       .cases w),j⟩
      split
      .rename_i r1 st1 H;have e3:=this.symm.trans H;cases e3;exact h
      .rename_i H;exact absurd (this.symm.trans H) (by simp)
     .cases h
   .cases h
 | .scope _,_,_,_,_,_,h=>by simp[gF]at h
 | .goto _,_,_,_,_,_,h=>by simp[gF]at h
 | .label _,_,_,_,_,_,h=>by simp[gF]at h
 | .refuse _,_,_,_,_,_,h=>by simp[gF]at h
def xg4{b a:Ctx->Code->S->Option (Out×S)}(m:LX b a):d5 (sK P pol b) (sK P pol a):=by
 intro Z g f l st r n h;unfold sK at h ⊢;split at h
 .rename_i i;rw[aF i];exact h
 rename_i i;rw[aB i];split at h
 .split at h
  .split at h
   .rename_i d;rw[aF d];split at h
    .cases h
    .rename_i o p j e;have q:=m _ g _ _ _ n e;simp only at q;rw[q];cases o with
     |exit id=>exact absurd rfl (j id)
     |_=>exact h
    .cases h
   .cases h
  .exact h
 .cases h
def rB:∀{n m:Nat},n<=m->LX (ix P pol n) (ix P pol m)
 |0,_,_=>λ_ _ _ _ _ _ h=>by simp[ix]at h
 |n+1,0,h=>by omega
 |n+1,m+1,h=>λc b a s r d e=>uT (xg4 (rB (by omega:n<=m))) (rB (by omega:n<=m)) a d e
end
end Go.Ix
