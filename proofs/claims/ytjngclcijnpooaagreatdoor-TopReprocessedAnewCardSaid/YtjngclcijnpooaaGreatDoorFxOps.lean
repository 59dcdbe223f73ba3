import Derived.Test.YtjngclcijnpooaaGreatDoorFxDefs
import Derived.IntWalk
set_option linter.all false
namespace Go.Ix
variable{P:Program}{pol:Pol}{call:aJ}{R:Type}
def xbj(o:Ob)(s t a b:Nat):∀l,jQ (BT l s t o) a b=if a=s/\b=t then some o else jQ l a b
 |[]=>by
  simp only[BT,jQ];by_cases h:a=s/\b=t
  .obtain⟨rfl,rfl⟩:=h;simp
  .rw[aB h];have:(Nat.beq s a&&Nat.beq t b)=false:=(by rw[kI];intro e;rw[cI]at e;exact h ⟨(fE e.1).symm,(fE e.2).symm⟩);rw[this];rfl
 |(x,y,p)::r=>by
  simp only[BT];by_cases d:x=s/\y=t
  .obtain⟨rfl,rfl⟩:=d;rw[show(Nat.beq x x&&Nat.beq y y)=true from by simp];simp only[cond_true,jQ];by_cases h:a=x/\b=y
   .obtain⟨rfl,rfl⟩:=h;simp
   .rw[aB h];have:(Nat.beq x a&&Nat.beq y b)=false:=(by rw[kI];intro e;rw[cI]at e;exact h ⟨(fE e.1).symm,(fE e.2).symm⟩);rw[this];rfl
  .have:(Nat.beq x s&&Nat.beq y t)=false:=(by rw[kI];intro e;rw[cI]at e;exact d ⟨fE e.1,fE e.2⟩);rw[this];simp only[cond_false,jQ];rw[xbj o s t a b r];by_cases h:a=s/\b=t
   .obtain⟨rfl,rfl⟩:=h;have:(Nat.beq x a&&Nat.beq y b)=false:=this;rw[this];simp
   .simp only[aB h]
def IZ(f:List (Nat×Nat×Ob)->List (Nat×Nat×Ob))(u v:Nat):∀h:Hp,gU (xW f h u) v=if v=u then f (gU h u)else gU h v
 |[]=>by
  simp only[xW,gU];by_cases e:v=u
  .subst e;simp
  .rw[aB e,show Nat.beq u v=false from by rw[kI];intro x;exact e (fE x).symm];rfl
 |(x,l)::r=>by
  simp only[xW];by_cases a:x=u
  .subst a;rw[show Nat.beq x x=true from by simp];simp only[cond_true,gU];by_cases e:v=x
   .subst e;simp
   .rw[aB e,show Nat.beq x v=false from by rw[kI];intro y;exact e (fE y).symm];rfl
  .rw[show Nat.beq x u=false from by rw[kI];intro y;exact a (fE y)];simp only[cond_false,gU];rw[IZ f u v r,show Nat.beq x u=false from by rw[kI];intro y;exact a (fE y)];by_cases e:v=u
   .subst e;rw[show Nat.beq x v=false from by rw[kI];intro y;exact a (fE y)];simp
   .rw[aB e];by_cases b:Nat.beq x v=true
    .rw[b];simp[e]
    .rw[xip]at b;rw[b];simp[e]
def KK(h:Hp)(i j:Id)(o:Ob):fK (rE h i o) j=if j=i then some o else fK h j:=by
 obtain⟨u,s,t⟩:=i;obtain⟨v,a,b⟩:=j;simp only[fK,rE,IZ];by_cases e:v=u
 .subst e;rw[aF rfl,xbj];by_cases d:a=s/\b=t
  .obtain⟨rfl,rfl⟩:=d;simp
  .rw[aB d,aB (by simpa using d)]
 .rw[aB e,aB (by intro x;exact e (by cases x;rfl))]
def x0k(h:Hp)(i j:Id)(o:Ob):fK (yS h i o) j=if j=i then some o else fK h j:=by
 obtain⟨u,s,t⟩:=i;obtain⟨v,a,b⟩:=j;simp only[fK,yS,IZ];by_cases e:v=u
 .subst e;rw[aF rfl];simp only[jQ];by_cases d:a=s/\b=t
  .obtain⟨rfl,rfl⟩:=d;simp
  .rw[aB (by simpa using d)]
   rw[show(Nat.beq s a&&Nat.beq t b)=false from by
    rw[kI];intro e;rw[cI]at e
    exact d ⟨(fE e.1).symm,(fE e.2).symm⟩]
   rfl
 .rw[aB e,aB (by intro x;exact e (by cases x;rfl))]
def Mem.cP(m:Mem)(i j:Id)(o:Ob):(m.set i o).get j=if j=i then some o else m.get j:=KK m.hp i j o
def Mem.dH(m:Mem)(i j:Id)(o:Ob):(m.new i o).get j=if j=i then some o else m.get j:=x0k m.hp i j o
def Mem.get_set'(m:Mem)(i:Id)(o:Ob):(m.set i o).get=bH m.get i (some o):=funext λj=>by rw[Mem.cP];rfl
def Mem.get_new'(m:Mem)(i:Id)(o:Ob):(m.new i o).get=bH m.get i (some o):=funext λj=>by rw[Mem.dH];rfl
def xg7{k c:Nat}{x y:Int}(h:k<=c->y=x):(bif Nat.ble k c then x else y)=y:=by
 cases e:Nat.ble k c with
 |true=>exact(h (rK e)).symm
 |false=>rfl
def J7(n:Int):cG n=IntKind.i64.wrap n:=by
 cases n with
 |ofNat k=>exact xg7 λh=>IntWalk.i64_in _ (by simp only[Int.ofNat_eq_natCast];omega)
 |negSucc k=>exact xg7 λh=>IntWalk.i64_in _ (by omega)
def bQ{n:Int}(a:-9223372036854775808<=n:=by omega)(b:n<=9223372036854775807:=by omega):cG n=n:=by rw[J7];exact IntWalk.i64_in _ ⟨a,b⟩
def OpOK(P:Program)(a:Id)(o:Oper)(d:Nat->AV)(m:Mem)(k:AV->Mem->Option R)(r:R):Prop:=
 ∃v b,aO P a o d m.get=some (v,b.get)/\b.next=m.next/\k v b=some r
def iJ(k:Nat)(h:k<9223372036854775807):cG ((k:Int)+1)=((k+1:Nat):Int):=by rw[bQ];omega
def dQ{n j:Nat}(h:n<j):∃i,j=i+1:=⟨j-1,by omega⟩
def OpOK.opt{a:Id}{o:Oper}{b:Nat->AV}{m:Mem}{k:AV->Mem->Option R}{r:R}{x:Option AV}(h:(x.bind λv=>k v m)=some r)(d:∀v,x=some v->aO P a o b m.get=some (v,m.get)):OpOK P a o b m k r:=by rw[oF]at h;obtain⟨v,e,f⟩:=h;exact⟨v,m,d v e,rfl,f⟩
def xoy{a b v:AV}(h:bJ a b=some v):∃x y,a=I x/\b=I y/\v=I (cG (x+y)):=by unfold bJ at h;split at h<;>simp at h;exact⟨_,_,rfl,rfl,h.symm⟩
def xoc{a b v:AV}(h:eQ a b=some v):∃x y,a=I x/\b=I y/\v=I (cG (x-y)):=by unfold eQ at h;split at h<;>simp at h;exact⟨_,_,rfl,rfl,h.symm⟩
def xoj{a b v:AV}(h:nD a b=some v):∃x y,a=I x/\b=I y/\v=I (cG (x*y)):=by unfold nD at h;split at h<;>simp at h;exact⟨_,_,rfl,rfl,h.symm⟩
def xoe{a b v:AV}(h:v8 a b=some v):∃x y,a=I x/\b=I y/\y≠0/\v=I (cG (x.tdiv y)):=by unfold v8 at h;split at h<;>simp at h;exact⟨_,_,rfl,rfl,h.1,h.2.symm⟩
def xod{a b v:AV}(h:xQ a b=some v):∃x y,a=I x/\b=I y/\y≠0/\v=I (x.tmod y):=by unfold xQ at h;split at h<;>simp at h;exact⟨_,_,rfl,rfl,h.1,h.2.symm⟩
def xon{a b v:AV}(h:cC a b=some v):∃x y,a=I x/\b=I y/\v=B (decide (x<y)):=by unfold cC at h;split at h<;>simp at h;exact⟨_,_,rfl,rfl,h.symm⟩
def xoo{a b v:AV}(h:iM a b=some v):∃x y,a=I x/\b=I y/\v=B (decide (x<=y)):=by unfold iM at h;split at h<;>simp at h;exact⟨_,_,rfl,rfl,h.symm⟩
def xop{a b v:AV}(h:eS a b=some v):∃x y,a=I x/\b=I y/\v=B (decide (y<x)):=by unfold eS at h;split at h<;>simp at h;exact⟨_,_,rfl,rfl,h.symm⟩
def xoq{a b v:AV}(h:kD a b=some v):∃x y,a=I x/\b=I y/\v=B (decide (y<=x)):=by unfold kD at h;split at h<;>simp at h;exact⟨_,_,rfl,rfl,h.symm⟩
def xos{a b v:AV}(h:eL a b=some v):∃x y,a=I x/\b=I y/\v=B (decide (x=y)):=by unfold eL at h;split at h<;>simp at h;exact⟨_,_,rfl,rfl,h.symm⟩
def xoi{a b v:AV}(h:eF a b=some v):∃x y,a=I x/\b=I y/\v=B (!decide (x=y)):=by
 unfold eF at h;split at h
 .cases h;exact⟨_,_,rfl,rfl,rfl⟩
 .cases h
def xoh{a v:AV}(h:oV a=some v):∃x,a=I x/\v=I (cG (0-x)):=by
 unfold oV at h;split at h
 .cases h;exact⟨_,rfl,rfl⟩
 .cases h
def xog{a v:AV}(h:dU a=some v):∃x,a=B x/\v=B (!x):=by
 unfold dU at h;split at h
 .cases h;exact⟨_,rfl,rfl⟩
 .cases h
def xol{a b v:AV}(h:w5 a b=some v):∃x y,a=I x/\b=I y/\v=I (if y<x then y else x):=by
 unfold w5 at h;split at h
 .cases h;exact⟨_,_,rfl,rfl,rfl⟩
 .cases h
def xom{a b v:AV}(h:L6 a b=some v):∃x y,a=I x/\b=I y/\v=I (if y > x then y else x):=by
 unfold L6 at h;split at h
 .cases h;exact⟨_,_,rfl,rfl,rfl⟩
 .cases h
def xud{t:TypeId}{x y:Operand}{a b:Int}(d:b≠0):bT P (do eqGuard .quo t x y (.int .i64 a) (.int .i64 b);binOp .quo t (.int .i64 a) (.int .i64 b))=some (.int .i64 (IntKind.i64.wrap (a.tdiv b))):=by show bT P (Op.intDiv .quo .i64 a b)=_;unfold Op.intDiv;rw[aB d];rfl
def xuc{t:TypeId}{x y:Operand}{a b:Int}(d:b≠0):bT P (do eqGuard .rem t x y (.int .i64 a) (.int .i64 b);binOp .rem t (.int .i64 a) (.int .i64 b))=some (.int .i64 (a.tmod b)):=by show bT P (Op.intDiv .rem .i64 a b)=_;unfold Op.intDiv;rw[aB d];rfl
def BN{J:Nat->Option (Nat×Nat)}{f:Nat->AV}:∀{a:List (Nat×Operand)} {d:List (Nat×Nat×AV)} {e:List AV},
    (∀i x,(i,x)∈a->True)->(List.map (λp:Nat×Operand=>(J p.1).map λq=>(q.1,q.2,ev f p.2)) a=d.map some) ->
    rH J e (a.map λp=>(p.1,ev f p.2))=jC e d
 |[],[],_,_,_=>rfl
 |[],_::_,_,_,h=>by simp at h
 |_::_,[],_,_,h=>by simp at h
 |(i,x)::a,(l,size,v)::d,e,_,h=>by
  simp only[fY,xih]at h;obtain⟨b,j⟩:=h;simp only[fY,rH,jC];cases g:J i with
  |none=>rw[g]at b;cases b
  |some q=>
   rw[g]at b;simp only[Option.map_some,bN,bF]at b;obtain⟨rfl,rfl,rfl⟩:=b;simp only
   split
   .exact BN (λ_ _ _=>trivial) j
   .rfl
def xb4{J:List (Nat×Nat)}{d:Nat->AV}:∀{a:List (Nat×Operand)} {b:List (Nat×Nat×AV)},BW J d a=some b ->
    List.map (λp:Nat×Operand=>(J[p.1]?).map λq=>(q.1,q.2,ev d p.2)) a=b.map some
 |[],_,h=>by simp only[BW,bN]at h;subst h;rfl
 |(i,x)::r,b,h=>by
  simp only[BW]at h;split at h
  .rename_i f size e;rw[cE]at h;obtain⟨l,g,rfl⟩:=h;simp only[fY,e,Option.map_some,xb4 g]
  .cases h
def JM{size:Nat}{sl:Nat->AV}:∀{parts:List (Nat×Operand)},
    List.map (λp:Nat×Operand=>(some (p.1*size,size):Option (Nat×Nat)).map λq=>(q.1,q.2,ev sl p.2)) parts=(BX size sl parts).map some
 |[]=>rfl
 |(i,x)::r=>by have:=JM (size:=size) (sl:=sl) (parts:=r);simp only[fY,BX,Option.map_some]at this ⊢;rw[this]
def xok{z:List AV}{size a:Nat}{x:AV}{b:List AV}{q:Nat}(h:YD z size a x=some (b,q)):∃n:Int,dL x=some n/\(0<=n/\n<=2 ^ 40/\n*a<=2 ^ 47)/\b=eN z (n.toNat*size)/\q=n.toNat:=by
 unfold YD at h;split at h
 .rename_i n e;split at h
  .rename_i d;cases h;exact⟨n,e,d,rfl,rfl⟩
  .cases h
 .cases h
def xhi{d:Id}{E:Option Tmp}{t:Array Operand}{b:Array TypeId}{A:TypeId}{pos:String}{u:Array Edge}{w:Option (Nat×Bool)}{p:Nat->AV}{m:Mem}{k:AV->Mem->Option R}{r:R}{s x:Operand}{size f:Nat}{F:Option (List AV×Nat)}(L:t.toList=[s,x])(M:∀a q,F=some (a,q)->wH P d m.get b [ev p s,ev p x]=(match ev p s with
 | .sc (.slice none 0 0)=>if q=0 then some (ev p s,m.get)else if cH q f then some (.sref d 0 0 q size true,bH m.get d (some (.row a 0 false)))else none
 | .aN i n true=>if n*size<=i.length then(if q=0 then some (ev p s,m.get)else if cH (n+q) f then some (.sref d 0 0 (n+q) size true,bH m.get d (some (.row (i.take (n*size)++a) 0 false)))else none)else none
 | .sref id o e n z true=>match m.get id with
   |some (.row i v false)=>if v=o/\z=size/\e+n*z<=i.length/\cH (n+q) f then
    if q=0 then some (ev p s,m.get)
    else if e+(n+q)*z<=i.length then some (.sref id o e (n+q) z true,bH m.get id (some (.row (cS i (e+n*z) a) v false)))
    else some (.sref id (o+1) 0 (n+q) z true,bH m.get id (some (.row ((i.drop e).take (n*z)++a) (v+1) false)))
    else none
   |_=>none
 | .sref id o e n z false=>match m.get id with
   |some (.row i v _)=>if v=o/\z=size/\e+n*z<=i.length/\cH (n+q) f then
    if q=0 then some (ev p s,m.get)
    else some (.sref d 0 0 (n+q) size true,bH m.get d (some (.row ((i.drop e).take (n*z)++a) 0 false)))
    else none
   |_=>none
 |_=>none))
    (h:cJ size f d F (ev p s) m k=some r):OpOK P d ⟨E,.call ⟨.builtin .append,t,b⟩,A,pos,u,w⟩ p m k r:=by
 have g:∀v H,wH P d m.get b [ev p s,ev p x]=some (v,H.get)->H.next=m.next->k v H=some r->OpOK P d ⟨E,.call ⟨.builtin .append,t,b⟩,A,pos,u,w⟩ p m k r:=by
  intro v H N O Q
  exact⟨v,H,by simp only[aO,gK,L,fY,lB,N],O,Q⟩
 unfold cJ at h
 split at h
 .rename_i a q
  have hA':=M _ _ rfl
  split at h
  .rename_i l
   rw[l]at hA'
   simp only at hA'
   split at h
   .rename_i y
    exact g _ m (by rw[l,hA',aF y]) rfl h
   .rename_i y
    split at h
    .rename_i C
     exact g _ (m.new d (.row a 0 false)) (by rw[l,hA',aB y,aF C,Mem.get_new']) rfl h
    .cases h
  .rename_i i n l
   rw[l]at hA'
   simp only at hA'
   split at h
   .rename_i K
    rw[aF K]at hA'
    split at h
    .rename_i y
     exact g _ m (by rw[l,hA',aF y]) rfl h
    .rename_i y
     split at h
     .rename_i C
      exact g _ (m.new d (.row (i.take (n*size)++a) 0 false)) (by rw[l,hA',aB y,aF C,Mem.get_new']) rfl h
     .cases h
   .cases h
  .rename_i id o e n J l
   rw[l]at hA'
   simp only at hA'
   split at h
   .rename_i i v y
    rw[y]at hA'
    simp only at hA'
    split at h
    .rename_i C
     rw[aF C]at hA'
     split at h
     .rename_i j
      exact g _ m (by rw[l,hA',aF j]) rfl h
     .rename_i j
      split at h
      .rename_i D
       exact g _ (m.set id (.row (cS i (e+n*J) a) v false)) (by rw[l,hA',aB j,aF D,Mem.get_set']) rfl h
      .rename_i D
       exact g _ (m.set id (.row ((i.drop e).take (n*J)++a) (v+1) false)) (by rw[l,hA',aB j,aB D,Mem.get_set']) rfl h
    .cases h
   .cases h
  .rename_i id o e n J l
   rw[l]at hA'
   simp only at hA'
   split at h
   .rename_i i v fr y
    rw[y]at hA'
    simp only at hA'
    split at h
    .rename_i C
     rw[aF C]at hA'
     split at h
     .rename_i j
      exact g _ m (by rw[l,hA',aF j]) rfl h
     .rename_i j
      exact g _ (m.new d (.row ((i.drop e).take (n*J)++a) 0 false)) (by rw[l,hA',aB j,Mem.get_new']) rfl h
    .cases h
   .cases h
  .cases h
 .cases h
def x0q{c:FCtx}{L:Id}{M:Option Tmp}{b:Builtin}{F:Array Operand}{g:Array TypeId}{l:TypeId}{pos:String}{D:Array Edge}{E:Option (Nat×Bool)}{W:Nat->AV}{m:Mem}{k:AV->Mem->Option R}{r:R}(h:iU P pol call c L ⟨M,.call ⟨.builtin b,F,g⟩,l,pos,D,E⟩ W m k=some r):OpOK P L ⟨M,.call ⟨.builtin b,F,g⟩,l,pos,D,E⟩ W m k r:=by
 have p:∀(b:Builtin),(b=.cap\/b=.max\/b=.min\/b=.real\/b=.imag\/b=.complex)->(∀v,mN P b g l (F.toList.map (ev W))=some v->aO P L ⟨M,.call ⟨.builtin b,F,g⟩,l,pos,D,E⟩ W m.get=some (v,m.get)):=(by intro b hb v j;rcases hb with rfl|rfl|rfl|rfl|rfl|rfl<;>(simp only[aO,gK];rw[j];rfl));simp only[iU]at h;cases b with
 |len=>
  simp only at h;split at h
  .rename_i t x H u;have e1':g=#[t]:=(by cases g;simpa using H);subst e1';split at h
   .rename_i C A;refine OpOK.opt h λv j=>?_
    simp only[aO,u,fY,lB,gK];have e3':P.underlying ((#[t]:Array TypeId).getD 0 0)=some (.slice C):=A;unfold aM at j;split at j
    .rename_i o;cases j;simp only[o,e3'];rfl
    .rename_i o;cases j;simp only[o,e3'];rfl
    .rename_i n1 n2;split at j
     .rename_i w o;rw[cE]at j;obtain⟨y,O,rfl⟩:=j;have hl:Builtin.len_ #[t] l #[w]=Builtin.len_ #[t] 0 #[w]:=rfl;cases hx:ev W x<;>first|(exact absurd hx (n1 _ _ _))|(exact absurd hx (n2 _ _ _ _ _ _))|(rw[hx]at o;simp only[iL,o];rw[show([w]:List Value).toArray=#[w]from rfl,hl,O];rfl)|(rw[hx]at o;cases o)
     .cases j
   .rename_i A;refine OpOK.opt h λv j=>?_
    simp only[aO,u,fY,lB,gK];have e3':P.underlying ((#[t]:Array TypeId).getD 0 0)=some .string:=A;unfold fZ at j;split at j
    .rename_i s o;cases j;have:bT P (Builtin.len_ #[t] l #[Value.string s])=some (.int .i64 s.size):=(by simp[Builtin.len_,underlying,program,Bind.bind,Sem.bind,bT,Pure.pure,A,goInt]);simp only[o,iL,dO];rw[show([Value.string s]:List Value).toArray=#[Value.string s]from rfl,this];rfl
    .cases j
   .rename_i kt et A;refine OpOK.opt h λv j=>?_
    simp only[aO,u,fY,lB,gK];have e3':P.underlying ((#[t]:Array TypeId).getD 0 0)=some (.map kt et):=A;unfold xa6 at j;split at j
    .rename_i id o;split at j
     .rename_i es J;cases j;simp only[o,J,e3'];rfl
     .cases j
    .cases j
   .cases h
  .cases h
 |append=>
  simp only at h;split at h
  .rename_i t t' s x H u;split at h
   .rename_i e d A o;split at h
    .rename_i i z J K;cases Q:decide (z.length=i.size/\0<i.size)with
     |false=>rw[Q]at h;cases h
     |true=>rw[Q]at h;exact xhi u (λX q Z=>(by simp only[wH,H,A,o,J,K,aF (sA Q),Z];rfl)) h
    .cases h
   .rename_i e d A o;split at h
    .rename_i i z J K;cases Q:decide (z.length=i.size/\0<i.size)with
     |false=>rw[Q]at h;cases h
     |true=>rw[Q]at h;refine xhi u (λX q Z=>?_) h;obtain⟨n,O,h2,rfl,rfl⟩:=xok Z;simp only[wH,H,A,o,J,K,aF (sA Q),O,aF h2];rfl
    .cases h
   .cases h
  .cases h
 |copy=>
  simp only at h;split at h
  .rename_i t ts s x H u;split at h
   .rename_i e A;split at h
    .rename_i i J;unfold xa8 at h;split at h
     .rename_i src q K;split at h
      .rename_i id ver N n z f Y;split at h
       .rename_i cs v e8;split at h
        .rename_i e9;exact⟨I (Nat.min q n),m.set id (.row (cS cs N (src.take (Nat.min q n*z))) v false),by simp only[aO,gK,yQ,H,u,fY,lB,A,J,K,Y,e8,aF e9,Mem.get_set'],rfl,h⟩
        .cases h
       .cases h
      .rename_i Y;exact⟨I 0,m,by simp only[aO,gK,yQ,H,u,fY,lB,A,J,K,Y],rfl,h⟩
      .cases h
     .cases h
    .cases h
   .cases h
  .cases h
 |min=>
  simp only at h;split at h
  .rename_i t t' x y H u;split at h
   .refine OpOK.opt h λv j=>?_
    obtain⟨a,b,O,h2,rfl⟩:=xol j;simp only[aO,gK,u,fY,lB,O,h2];rfl
   .exact OpOK.opt h (p .min (by simp))
  .exact OpOK.opt h (p .min (by simp))
 |max=>
  simp only at h;split at h
  .rename_i t t' x y H u;split at h
   .refine OpOK.opt h λv j=>?_
    obtain⟨a,b,O,h2,rfl⟩:=xom j;simp only[aO,gK,u,fY,lB,O,h2];rfl
   .exact OpOK.opt h (p .max (by simp))
  .exact OpOK.opt h (p .max (by simp))
 |clear=>
  simp only at h;split at h
  .rename_i t s H u;split at h
   .rename_i C A;split at h
    .rename_i i z o J;cases hz:Nat.beq z.length i.size with
     |false=>rw[hz]at h;cases h
     |true=>
      rw[hz]at h;have hz':z.length=i.size:=fE hz;simp only[cond_true,BO]at h;split at h
      .rename_i K;exact⟨_,m,by simp only[aO,gK,KE,H,u,fY,lB,A,o,J,aF hz',K],rfl,h⟩
      .rename_i id ver N n z' f K;split at h
       .rename_i cs v Y;split at h
        .rename_i e8;exact⟨_,m.set id (.row (cS cs N (eN z (n*i.size))) v false),by simp only[aO,gK,KE,H,u,fY,lB,A,o,J,aF hz',K,Y,aF e8,Mem.get_set'],rfl,h⟩
        .cases h
       .cases h
      .cases h
    .cases h
   .cases h
  .cases h
 |cap=>exact OpOK.opt h (p .cap (by simp))
 |real=>exact OpOK.opt h (p .real (by simp))
 |imag=>exact OpOK.opt h (p .imag (by simp))
 |complex=>exact OpOK.opt h (p .complex (by simp))
 |_=>cases h
def toList_map{a:Option Operand}{b:Nat->AV}:a.toList.map (ev b)=(a.map (ev b)).toList:=by cases a<;>rfl
def x0o{c:FCtx}{H:Id}{o:Oper}{O:Nat->AV}{m:Mem}{k:AV->Mem->Option R}{r:R}(hn:fV o=false)(hn2:∀rv W X at',o.op≠.call ⟨.invoke rv W,X,at'⟩)(h:iU P pol call c H o O m k=some r):OpOK P H o O m k r:=by
 obtain⟨dst,op,type,pos,after,guard⟩:=o;cases op with
 |move x=>exact⟨_,m,rfl,rfl,h⟩
 |assign x=>exact⟨_,m,rfl,rfl,h⟩
 |pick c a b=>
  refine OpOK.opt h λv j=>?_
  unfold bX at j;simp only[aO];split at j
  .rename_i t e;cases j;rw[e];cases t<;>rfl
  .cases j
 |alloc t=>
  simp only[iU]at h;split at h
  .rename_i L e;split at h
   .rename_i u hb;exact⟨.ptr H 0 0,m.new H (.bld t u []),by simp only[aO,e,hb,Mem.get_new'],rfl,h⟩
   .rename_i hb;exact⟨.ptr H 0 0,m.new H (.row L 0 false),by simp only[aO,e,hb,Mem.get_new'],rfl,h⟩
  .cases h
 |box t x=>
  simp only[iU,dB]at h;split at h
  .rename_i e;exact⟨.ptr H 0 0,m.new H (.row (ev O x).cells 0 false),by simp only[aO,e,cM,Mem.get_new'],rfl,h⟩
  .cases h
 |build t parts=>
  simp only[iU]at h;split at h
  .rename_i fs z p A;split at h
   .rename_i J E;split at h
    .rename_i ps D;refine OpOK.opt h λv j=>?_
     simp only[aO,p,A,E];rw[BN (λ_ _ _=>trivial) (xb4 D)];unfold cY at j;rw[cE]at j ⊢;obtain⟨L,M,rfl⟩:=j;exact⟨L,M,rfl⟩
    .cases h
   .cases h
  .rename_i n C z p A;split at h
   .rename_i i E;refine OpOK.opt h λv j=>?_
    simp only[aO,p,A,E];rw[BN (λ_ _ _=>trivial) JM];unfold cY at j;rw[cE]at j ⊢;obtain⟨L,M,rfl⟩:=j;exact⟨L,M,rfl⟩
   .cases h
  .cases h
 |buildSlice t len parts=>
  simp only[iU]at h;split at h
  .rename_i C p;split at h
   .rename_i i z A E;cases hd:decide (len*i.size<=2 ^ 24/\z.length=i.size)with
    |false=>rw[hd]at h;cases h
    |true=>
     rw[hd]at h;have hd':=sA hd;simp only[cond_true,cQ]at h;split at h
     .rename_i L D;split at h
      .cases h
      .rename_i F;split at h
       .rename_i K;refine⟨_,m,?_,rfl,h⟩;simp only[aO,p,A,E,aF hd'];rw[BN (λ_ _ _=>trivial) JM,D];simp only[aB F,aF K]
       .rename_i K;refine⟨_,m.new H (.row L 0 false),?_,rfl,h⟩;simp only[aO,p,A,E,aF hd'];rw[BN (λ_ _ _=>trivial) JM,D];simp only[aB F,aB K,Mem.get_new']
     .cases h
   .cases h
  .cases h
 |load t a=>
  simp only[iU]at h;split at h
  .rename_i g z p;refine OpOK.opt h λv j=>?_
   simp only[aO,p];unfold aA at j;split at j
   .rename_i L A;rw[A];simp only
    split at j
    .cases j
    .rename_i E;rw[aB E,j];rfl
   .rename_i id ver off A;rw[A];simp only
    split at j
    .rename_i L v' fz E;rw[E];simp only
     split at j
     .rename_i D;rw[aF D,j];rfl
     .cases j
    .cases j
   .cases j
  .cases h
 |store t a x=>
  simp only[iU]at h;split at h
  .rename_i g z p;unfold aU at h;split at h
   .rename_i id ver off A;split at h
    .rename_i L v E;split at h
     .rename_i D;exact⟨U,m.set id (.row (cS L off (ev O x).cells) v false),by simp only[aO,p,A,E,aF D,Mem.get_set'],rfl,h⟩
     .cases h
    .cases h
   .cases h
  .cases h
 |nilCheck x=>
  refine OpOK.opt h λv j=>?_
  unfold bZ at j;simp only[aO];split at j
  .rename_i v0 e;rw[e];split at j<;>first|(cases j;done)|(cases j;simp_all)
  .rename_i e;cases j;rw[e]
  .rename_i e;cases j;rw[e]
  .rename_i e;cases j;rw[e]
  .rename_i e;cases j;rw[e]
  .cases j
 |binOp op t x y yt=>
  have Y:(∀v,bY P op t x y (ev O x) (ev O y)=some v->aO P H ⟨dst,.binOp op t x y yt,type,pos,after,guard⟩ O m.get=some (v,m.get)):=(by intro v j;simp only[aO];rw[j];rfl);simp only[iU]at h;split at h
  .rename_i ht;cases op with
   |add=>exact OpOK.opt h λv j=>(by obtain⟨a,b,p,A,rfl⟩:=xoy j;simp only[aO,p,A,J7];rfl)
   |sub=>exact OpOK.opt h λv j=>(by obtain⟨a,b,p,A,rfl⟩:=xoc j;simp only[aO,p,A,J7];rfl)
   |mul=>exact OpOK.opt h λv j=>(by obtain⟨a,b,p,A,rfl⟩:=xoj j;simp only[aO,p,A,J7];rfl)
   |quo=>exact OpOK.opt h λv j=>(by obtain⟨a,b,p,A,E,rfl⟩:=xoe j;simp only[aO,bY,zL,p,A,J7,dO,xud E];rfl)
   |rem=>exact OpOK.opt h λv j=>(by obtain⟨a,b,p,A,E,rfl⟩:=xod j;simp only[aO,bY,zL,p,A,dO,xuc E];rfl)
   |lss=>exact OpOK.opt h λv j=>(by obtain⟨a,b,p,A,rfl⟩:=xon j;simp only[aO,p,A];rfl)
   |leq=>exact OpOK.opt h λv j=>(by obtain⟨a,b,p,A,rfl⟩:=xoo j;simp only[aO,p,A];rfl)
   |gtr=>exact OpOK.opt h λv j=>(by obtain⟨a,b,p,A,rfl⟩:=xop j;simp only[aO,p,A];rfl)
   |geq=>exact OpOK.opt h λv j=>(by obtain⟨a,b,p,A,rfl⟩:=xoq j;simp only[aO,p,A];rfl)
   |eql=>exact OpOK.opt h λv j=>(by obtain⟨a,b,p,A,rfl⟩:=xos j;simp only[aO,p,A];rfl)
   |neq=>exact OpOK.opt h λv j=>(by obtain⟨a,b,p,A,rfl⟩:=xoi j;simp only[aO,p,A];rfl)
   |_=>exact OpOK.opt h Y
  .exact OpOK.opt h Y
 |unOp op t x=>
  have Y:(∀v,BL P op (ev O x)=some v->aO P H ⟨dst,.unOp op t x,type,pos,after,guard⟩ O m.get=some (v,m.get)):=(by intro v j;simp only[aO];rw[j];rfl);simp only[iU]at h;split at h
  .split at h
   .exact OpOK.opt h λv j=>(by obtain⟨a,p,rfl⟩:=xoh j;simp only[aO,p,J7];rfl)
   .exact OpOK.opt h Y
  .split at h
   .exact OpOK.opt h λv j=>(by obtain⟨a,p,rfl⟩:=xog j;simp only[aO,p];rfl)
   .exact OpOK.opt h Y
 |convert src dst' x=>
  simp only[iU]at h;split at h
  .rename_i C p A;refine OpOK.opt h λv j=>?_
   unfold IT at j;rw[cE]at j;obtain⟨s,Z,rfl⟩:=j;simp only[aO,Z]
  .rename_i M;refine OpOK.opt h λv j=>?_
   have ht:qG P m.get src dst' (ev O x)=none:=by
    unfold qG;split
    .rename_i C p A;exact(M C p A).elim
    .rfl
   simp only[aO,ht];rw[j];rfl
 |makeInterface t x=>
  refine OpOK.opt h λv j=>?_
  unfold nY at j;simp only[aO];split at j
  .rename_i u e;rw[e];rw[cE]at j ⊢;obtain⟨w,M,rfl⟩:=j;exact⟨w,M,rfl⟩
  .cases j
 |makeFunc fn first captured=>
  cases fn with
  |func f=>
   simp only[iU]at h;cases Q:Nat.beq first.size 0 with
   |false=>rw[Q]at h;cases h
   |true=>rw[Q]at h;exact⟨_,m,by simp only[aO,aF (fE Q)],rfl,h⟩
  |_=>cases h
 |makeSlice t l c=>
  simp only[iU]at h;split at h
  .rename_i C p;split at h
   .rename_i i z A E;cases Q:Nat.beq z.length i.size with
    |false=>rw[Q]at h;cases h
    |true=>
     rw[Q]at h;simp only[cond_true,rW]at h;split at h
     .rename_i l' c' D F;split at h
      .rename_i K;refine⟨_,m.new H (.row (eN z (c'.toNat*i.size)) 0 false),?_,rfl,h⟩;simp only[aO,p,A,E,D,F];rw[aF ⟨K.1,K.2.1,K.2.2.1,K.2.2.2,fE Q⟩,Mem.get_new']
      .cases h
     .cases h
   .cases h
  .cases h
 |slice t x lo hi mx=>
  cases mx with
  |some mx=>
   cases hi with
   |none=>cases h
   |some hi=>
   rcases lo with _|lo;all_goals
    refine OpOK.opt h λv j=>?_
    unfold nC at j;simp only[aO];split at j
    .rename_i v0 p;simp only[p];split at j
     .rename_i ls h' m' A E D;dsimp only[Option.toList,Option.map_some,Option.map_none]at A;simp only[Option.toList,fY,lB,A,E,D];rw[cE]at j ⊢;obtain⟨w,M,rfl⟩:=j;exact⟨w,M,rfl⟩
     .cases j
    .rename_i p;simp only[p];split at j
     .rename_i C A;simp only[A];split at j
      .rename_i i l h' m' E D F K;dsimp only[Option.getD_some,Option.getD_none,Option.map_some,Option.map_none]at D;simp only[E,D,F,K];split at j
       .rename_i e7;split at j
        .rename_i e8;cases j;simp only[e7,aF e8]
        .cases j
       .rename_i e7;split at j
        .rename_i e8;cases j;simp only[e7,aF e8]
        .cases j
       .cases j
      .cases j
     .cases j
  |none=>
  rcases lo with _|lo<;>rcases hi with _|hi;all_goals
   dsimp only[iU,Option.map_some,Option.map_none]at h;split at h
   .rename_i n C p;split at h
    .rename_i i A;refine OpOK.opt h λv j=>?_
     unfold xa0 at j;split at j
     .rename_i id ver off E;split at j
      .rename_i l h' D F;split at j
       .rename_i L v' fz K;split at j
        .rename_i e7;cases j;dsimp only[Option.getD_some,Option.getD_none]at D F;simp only[aO,E,dO,p,A,D,F,K,aF e7]
        .cases j
       .cases j
      .cases j
     .cases j
    .cases h
   .rename_i hna;refine OpOK.opt h λv j=>?_
    unfold eK at j;simp only[aO];split at j
    .rename_i v0 p;simp only[p];split at j
     .rename_i ls Z A E;dsimp only[Option.toList]at A E;simp only[Option.toList,fY,lB,A,E];rw[cE]at j ⊢;obtain⟨w,M,rfl⟩:=j;first|exact⟨w,M,rfl⟩|(cases A.symm.trans E;exact⟨w,M,rfl⟩)
     .cases j
    .rename_i p;simp only[p];split at j
     .rename_i C A;simp only[A];split at j
      .rename_i i l E D;dsimp only[Option.getD_some,Option.getD_none]at D;simp only[E,D];split at j
       .rename_i L n x' F;simp only[F];split at j
        .rename_i h' K;dsimp only[Option.getD_some,Option.getD_none]at K;simp only[K];split at j
         .rename_i e7;cases j;rw[aF e7]
         .cases j
        .cases j
       .rename_i id ver off n z full F;simp only[F];split at j
        .rename_i h' K;dsimp only[Option.getD_some,Option.getD_none]at K;simp only[K];split at j
         .rename_i e7;cases j;rw[aF e7]
         .cases j
        .cases j
       .cases j
      .cases j
     .cases j
 |sliceToArrayPointer t x=>
  simp only[iU]at h;split at h
  .rename_i n C p;refine OpOK.opt h λv j=>?_
   simp only[aO,p];unfold xa1 at j;split at j
   .rename_i D;rw[D];split at j
    .rename_i F;cases j;simp only;rw[aF F]
    .cases j
   .rename_i D;rw[D];split at j
    .rename_i F;cases j;simp only;rw[aF F]
    .cases j
   .cases j
  .cases h
 |fieldAddr t x f=>
  simp only[iU]at h;split at h
  .rename_i fs p;split at h
   .rename_i fd A;split at h
    .rename_i i E;cases Q:Nat.beq i.size 0 with
     |true=>rw[Q]at h;cases h
     |false=>
      rw[Q]at h;have hz':¬i.size=0:=(by intro e;rw[e]at Q;cases Q);refine OpOK.opt h λv j=>?_
      simp only[aO,p,A,E,aB hz'];unfold aD at j;split at j
      .rename_i D;cases j;rw[D]
      .rename_i D;cases j;rw[D]
      .cases j
    .cases h
   .cases h
  .cases h
 |field t x f=>
  simp only[iU]at h;split at h
  .rename_i fs p;split at h
   .rename_i fd A;split at h
    .rename_i g z E;refine OpOK.opt h λv j=>?_
     simp only[aO,p,A,E];unfold L7 at j;split at j
     .rename_i D;rw[D];simp only[j,Option.map_some]
     .cases j
    .cases h
   .cases h
  .cases h
 |indexAddr t x ix=>
  simp only[iU]at h;split at h
  .rename_i C p;split at h
   .rename_i i A;refine OpOK.opt h λv j=>?_
    unfold aR at j;simp only[aO,p,A];split at j
    .rename_i kk E;simp only[E];split at j
     .rename_i D;simp only[D];split at j
      .rename_i F;cases j;rw[aF F]
      .cases j
     .rename_i D;simp only[D];split at j
      .rename_i F;cases j;rw[aF F]
      .cases j
     .cases j
    .cases j
   .cases h
  .rename_i n C p;split at h
   .rename_i i A;refine OpOK.opt h λv j=>?_
    unfold tY at j;simp only[aO,p,A];split at j
    .rename_i kk E;simp only[E];split at j
     .rename_i D;simp only[D];split at j
      .rename_i F;cases j;rw[aF F]
      .cases j
     .rename_i D;simp only[D];split at j
      .rename_i F;cases j;rw[aF F]
      .cases j
     .cases j
    .cases j
   .cases h
  .cases h
 |index t x ix=>
  refine OpOK.opt h λv j=>?_
  unfold kJ at j;simp only[aO];split at j
  .rename_i L p;simp only[p];split at j
   .rename_i kk n C A E;simp only[A,E];split at j
    .rename_i g z D;simp only[D];split at j
     .rename_i F;rw[aF F,j];rfl
     .cases j
    .cases j
   .cases j
  .rename_i v0 p;simp only[p];split at j
   .rename_i kk A;simp only[A];rw[cE]at j ⊢;obtain⟨w,M,rfl⟩:=j;exact⟨w,M,rfl⟩
   .cases j
  .cases j
 |extract x i=>
  refine OpOK.opt h λv j=>?_
  unfold cO at j;simp only[aO];split at j
  .rename_i p;simp only[p,j,Option.map_some]
  .cases j
 |makeMap t rs=>
  cases rs with
  |some _=>cases h
  |none=>exact⟨.mp H,m.new H (.map []),by simp only[aO,Mem.get_new'],rfl,h⟩
 |lookup t x ix ok=>
  refine OpOK.opt h λv j=>?_
  unfold xR at j;simp only[aO];split at j
  .rename_i kt et kk p A;simp only[p,A];split at j
   .rename_i d zv E D;simp only[E,D];split at j
    .rename_i es F;simp only[F];split at j
     .rename_i K;cases j;rw[aF K]
     .cases j
    .cases j
   .cases j
  .cases j
 |insert t mm ix x=>
  simp only[iU]at h;unfold tW at h;split at h
  .rename_i kt et kv id p A E;split at h
   .rename_i d es D F;split at h
    .rename_i K;exact⟨U,m.set id (.map (setKey kv (ev O x) es)),by simp only[aO,p,A,E,D,F,aF K,Mem.get_set'],rfl,h⟩
    .cases h
   .cases h
  .cases h
 |mapUpdate t mm ix x=>
  simp only[iU]at h;unfold tW at h;split at h
  .rename_i kt et kv id p A E;split at h
   .rename_i d es D F;split at h
    .rename_i K;exact⟨U,m.set id (.map (setKey kv (ev O x) es)),by simp only[aO,p,A,E,D,F,aF K,Mem.get_set'],rfl,h⟩
    .cases h
   .cases h
  .cases h
 |call cl=>
  obtain⟨callee,X,N⟩:=cl;cases callee with
  |value fv=>simp[fV]at hn
  |invoke rv W=>exact absurd rfl (hn2 rv W X N)
  |builtin b=>exact x0q h
 |_=>cases h
end Go.Ix
