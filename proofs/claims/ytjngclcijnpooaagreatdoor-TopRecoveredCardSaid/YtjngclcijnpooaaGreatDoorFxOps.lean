import Derived.Test.YtjngclcijnpooaaGreatDoorFxDefs
import Derived.IntWalk
set_option linter.all false
namespace Go.Ix
variable{P:Program}{pol:Pol}{call:aJ}{R:Type}
def xd4(o:Ob)(s t a b:Nat):∀l,yP (DB l s t o) a b=if a=s/\b=t then some o else yP l a b
 |[]=>by
  simp only[DB,yP];by_cases h:a=s/\b=t
  .obtain⟨rfl,rfl⟩:=h;simp
  .rw[aB h];have:(Nat.beq s a&&Nat.beq t b)=false:=(by rw[kV];intro e;rw[cR]at e;exact h ⟨(gD e.1).symm,(gD e.2).symm⟩);rw[this];rfl
 |(x,y,p)::r=>by
  simp only[DB];by_cases d:x=s/\y=t
  .obtain⟨rfl,rfl⟩:=d;rw[show(Nat.beq x x&&Nat.beq y y)=true from by simp];simp only[cond_true,yP];by_cases h:a=x/\b=y
   .obtain⟨rfl,rfl⟩:=h;simp
   .rw[aB h];have:(Nat.beq x a&&Nat.beq y b)=false:=(by rw[kV];intro e;rw[cR]at e;exact h ⟨(gD e.1).symm,(gD e.2).symm⟩);rw[this];rfl
  .have:(Nat.beq x s&&Nat.beq y t)=false:=(by rw[kV];intro e;rw[cR]at e;exact d ⟨gD e.1,gD e.2⟩);rw[this];simp only[cond_false,yP];rw[xd4 o s t a b r];by_cases h:a=s/\b=t
   .obtain⟨rfl,rfl⟩:=h;have:(Nat.beq x a&&Nat.beq y b)=false:=this;rw[this];simp
   .simp only[aB h]
def au(f:List (Nat×Nat×Ob)->List (Nat×Nat×Ob))(u v:Nat):∀h:Hp,lD (N9 f h u) v=if v=u then f (lD h u)else lD h v
 |[]=>by
  simp only[N9,lD];by_cases e:v=u
  .subst e;simp
  .rw[aB e,show Nat.beq u v=false from by rw[kV];intro x;exact e (gD x).symm];rfl
 |(x,l)::r=>by
  simp only[N9];by_cases a:x=u
  .subst a;rw[show Nat.beq x x=true from by simp];simp only[cond_true,lD];by_cases e:v=x
   .subst e;simp
   .rw[aB e,show Nat.beq x v=false from by rw[kV];intro y;exact e (gD y).symm];rfl
  .rw[show Nat.beq x u=false from by rw[kV];intro y;exact a (gD y)];simp only[cond_false,lD];rw[au f u v r,show Nat.beq x u=false from by rw[kV];intro y;exact a (gD y)];by_cases e:v=u
   .subst e;rw[show Nat.beq x v=false from by rw[kV];intro y;exact a (gD y)];simp
   .rw[aB e];by_cases b:Nat.beq x v=true
    .rw[b];simp[e]
    .rw[xlu]at b;rw[b];simp[e]
def MO(h:Hp)(i j:Id)(o:Ob):fK (hset h i o) j=if j=i then some o else fK h j:=by
 obtain⟨u,s,t⟩:=i;obtain⟨v,a,b⟩:=j;simp only[fK,hset,au];by_cases e:v=u
 .subst e;rw[aF rfl,xd4];by_cases d:a=s/\b=t
  .obtain⟨rfl,rfl⟩:=d;simp
  .rw[aB d,aB (by simpa using d)]
 .rw[aB e,aB (by intro x;exact e (by cases x;rfl))]
def x47(h:Hp)(i j:Id)(o:Ob):fK (zK h i o) j=if j=i then some o else fK h j:=by
 obtain⟨u,s,t⟩:=i;obtain⟨v,a,b⟩:=j;simp only[fK,zK,au];by_cases e:v=u
 .subst e;rw[aF rfl];simp only[yP];by_cases d:a=s/\b=t
  .obtain⟨rfl,rfl⟩:=d;simp
  .rw[aB (by simpa using d)]
   rw[show(Nat.beq s a&&Nat.beq t b)=false from by
    rw[kV];intro e;rw[cR]at e
    exact d ⟨(gD e.1).symm,(gD e.2).symm⟩]
   rfl
 .rw[aB e,aB (by intro x;exact e (by cases x;rfl))]
def Mem.bG(m:Mem)(i j:Id)(o:Ob):(m.set i o).get j=if j=i then some o else m.get j:=MO m.hp i j o
def Mem.dI(m:Mem)(i j:Id)(o:Ob):(m.new i o).get j=if j=i then some o else m.get j:=x47 m.hp i j o
def Mem.get_set'(m:Mem)(i:Id)(o:Ob):(m.set i o).get=bT m.get i (some o):=funext λj=>by rw[Mem.bG];rfl
def Mem.get_new'(m:Mem)(i:Id)(o:Ob):(m.new i o).get=bT m.get i (some o):=funext λj=>by rw[Mem.dI];rfl
def xkb{k c:Nat}{x y:Int}(h:k<=c->y=x):(bif Nat.ble k c then x else y)=y:=by
 cases e:Nat.ble k c with
 |true=>exact(h (xL e)).symm
 |false=>rfl
def L7(n:Int):cJ n=IntKind.i64.wrap n:=by
 cases n with
 |ofNat k=>exact xkb λh=>IntWalk.i64_in _ (by simp only[Int.ofNat_eq_natCast];omega)
 |negSucc k=>exact xkb λh=>IntWalk.i64_in _ (by omega)
def bU{n:Int}(a:-9223372036854775808<=n:=by omega)(b:n<=9223372036854775807:=by omega):cJ n=n:=by rw[L7];exact IntWalk.i64_in _ ⟨a,b⟩
def OpOK(P:Program)(a:Id)(o:Oper)(d:Nat->AV)(m:Mem)(k:AV->Mem->Option R)(r:R):Prop:=
 ∃v b,aO P a o d m.get=some (v,b.get)/\b.next=m.next/\k v b=some r
def gJ(k:Nat)(h:k<9223372036854775807):cJ ((k:Int)+1)=((k+1:Nat):Int):=by rw[bU];omega
def dD{n j:Nat}(h:n<j):∃i,j=i+1:=⟨j-1,by omega⟩
def OpOK.opt{a:Id}{o:Oper}{b:Nat->AV}{m:Mem}{k:AV->Mem->Option R}{r:R}{x:Option AV}(h:(x.bind λv=>k v m)=some r)(d:∀v,x=some v->aO P a o b m.get=some (v,m.get)):OpOK P a o b m k r:=by rw[pE]at h;obtain⟨v,e,f⟩:=h;exact⟨v,m,d v e,rfl,f⟩
def xsw{a b v:AV}(h:bM a b=some v):∃x y,a=I x/\b=I y/\v=I (cJ (x+y)):=by unfold bM at h;split at h<;>simp at h;exact⟨_,_,rfl,rfl,h.symm⟩
def xsd{a b v:AV}(h:eV a b=some v):∃x y,a=I x/\b=I y/\v=I (cJ (x-y)):=by unfold eV at h;split at h<;>simp at h;exact⟨_,_,rfl,rfl,h.symm⟩
def xsj{a b v:AV}(h:nA a b=some v):∃x y,a=I x/\b=I y/\v=I (cJ (x*y)):=by unfold nA at h;split at h<;>simp at h;exact⟨_,_,rfl,rfl,h.symm⟩
def xsf{a b v:AV}(h:LC a b=some v):∃x y,a=I x/\b=I y/\y≠0/\v=I (cJ (x.tdiv y)):=by unfold LC at h;split at h<;>simp at h;exact⟨_,_,rfl,rfl,h.1,h.2.symm⟩
def xse{a b v:AV}(h:vU a b=some v):∃x y,a=I x/\b=I y/\y≠0/\v=I (x.tmod y):=by unfold vU at h;split at h<;>simp at h;exact⟨_,_,rfl,rfl,h.1,h.2.symm⟩
def xsn{a b v:AV}(h:cA a b=some v):∃x y,a=I x/\b=I y/\v=B (decide (x<y)):=by unfold cA at h;split at h<;>simp at h;exact⟨_,_,rfl,rfl,h.symm⟩
def xso{a b v:AV}(h:jI a b=some v):∃x y,a=I x/\b=I y/\v=B (decide (x<=y)):=by unfold jI at h;split at h<;>simp at h;exact⟨_,_,rfl,rfl,h.symm⟩
def xsp{a b v:AV}(h:eP a b=some v):∃x y,a=I x/\b=I y/\v=B (decide (y<x)):=by unfold eP at h;split at h<;>simp at h;exact⟨_,_,rfl,rfl,h.symm⟩
def xsq{a b v:AV}(h:jU a b=some v):∃x y,a=I x/\b=I y/\v=B (decide (y<=x)):=by unfold jU at h;split at h<;>simp at h;exact⟨_,_,rfl,rfl,h.symm⟩
def xss{a b v:AV}(h:eK a b=some v):∃x y,a=I x/\b=I y/\v=B (decide (x=y)):=by unfold eK at h;split at h<;>simp at h;exact⟨_,_,rfl,rfl,h.symm⟩
def xsi{a b v:AV}(h:eA a b=some v):∃x y,a=I x/\b=I y/\v=B (!decide (x=y)):=by
 unfold eA at h;split at h
 .cases h;exact⟨_,_,rfl,rfl,rfl⟩
 .cases h
def xsh{a v:AV}(h:rB a=some v):∃x,a=I x/\v=I (cJ (0-x)):=by
 unfold rB at h;split at h
 .cases h;exact⟨_,rfl,rfl⟩
 .cases h
def xsg{a v:AV}(h:dN a=some v):∃x,a=B x/\v=B (!x):=by
 unfold dN at h;split at h
 .cases h;exact⟨_,rfl,rfl⟩
 .cases h
def xsl{a b v:AV}(h:B2 a b=some v):∃x y,a=I x/\b=I y/\v=I (if y<x then y else x):=by
 unfold B2 at h;split at h
 .cases h;exact⟨_,_,rfl,rfl,rfl⟩
 .cases h
def xsm{a b v:AV}(h:CQ a b=some v):∃x y,a=I x/\b=I y/\v=I (if y > x then y else x):=by
 unfold CQ at h;split at h
 .cases h;exact⟨_,_,rfl,rfl,rfl⟩
 .cases h
def xyt{t:TypeId}{x y:Operand}{a b:Int}(d:b≠0):bJ P (do eqGuard .quo t x y (.int .i64 a) (.int .i64 b);binOp .quo t (.int .i64 a) (.int .i64 b))=some (.int .i64 (IntKind.i64.wrap (a.tdiv b))):=by show bJ P (Op.intDiv .quo .i64 a b)=_;unfold Op.intDiv;rw[aB d];rfl
def xys{t:TypeId}{x y:Operand}{a b:Int}(d:b≠0):bJ P (do eqGuard .rem t x y (.int .i64 a) (.int .i64 b);binOp .rem t (.int .i64 a) (.int .i64 b))=some (.int .i64 (a.tmod b)):=by show bJ P (Op.intDiv .rem .i64 a b)=_;unfold Op.intDiv;rw[aB d];rfl
def CR{J:Nat->Option (Nat×Nat)}{f:Nat->AV}:∀{a:List (Nat×Operand)} {d:List (Nat×Nat×AV)} {e:List AV},
    (∀i x,(i,x)∈a->True)->(List.map (λp:Nat×Operand=>(J p.1).map λq=>(q.1,q.2,ev f p.2)) a=d.map some) ->
    rR J e (a.map λp=>(p.1,ev f p.2))=iM e d
 |[],[],_,_,_=>rfl
 |[],_::_,_,_,h=>by simp at h
 |_::_,[],_,_,h=>by simp at h
 |(i,x)::a,(l,size,v)::d,e,_,h=>by
  simp only[eN,OD]at h;obtain⟨b,j⟩:=h;simp only[eN,rR,iM];cases g:J i with
  |none=>rw[g]at b;cases b
  |some q=>
   rw[g]at b;simp only[Option.map_some,bY,bK]at b;obtain⟨rfl,rfl,rfl⟩:=b;simp only
   split
   .exact CR (λ_ _ _=>trivial) j
   .rfl
def xes{J:List (Nat×Nat)}{d:Nat->AV}:∀{a:List (Nat×Operand)} {b:List (Nat×Nat×AV)},DF J d a=some b ->
    List.map (λp:Nat×Operand=>(J[p.1]?).map λq=>(q.1,q.2,ev d p.2)) a=b.map some
 |[],_,h=>by simp only[DF,bY]at h;subst h;rfl
 |(i,x)::r,b,h=>by
  simp only[DF]at h;split at h
  .rename_i f size e;rw[cM]at h;obtain⟨l,g,rfl⟩:=h;simp only[eN,e,Option.map_some,xes g]
  .cases h
def LU{size:Nat}{sl:Nat->AV}:∀{parts:List (Nat×Operand)},
    List.map (λp:Nat×Operand=>(some (p.1*size,size):Option (Nat×Nat)).map λq=>(q.1,q.2,ev sl p.2)) parts=(DG size sl parts).map some
 |[]=>rfl
 |(i,x)::r=>by have:=LU (size:=size) (sl:=sl) (parts:=r);simp only[eN,DG,Option.map_some]at this ⊢;rw[this]
def xsk{z:List AV}{size a:Nat}{x:AV}{b:List AV}{q:Nat}(h:ab z size a x=some (b,q)):∃n:Int,dF x=some n/\(0<=n/\n<=2 ^ 40/\n*a<=2 ^ 47)/\b=eQ z (n.toNat*size)/\q=n.toNat:=by
 unfold ab at h;split at h
 .rename_i n e;split at h
  .rename_i d;cases h;exact⟨n,e,d,rfl,rfl⟩
  .cases h
 .cases h
def xkl{d:Id}{E:Option Tmp}{t:Array Operand}{b:Array TypeId}{A:TypeId}{pos:String}{u:Array Edge}{w:Option (Nat×Bool)}{p:Nat->AV}{m:Mem}{k:AV->Mem->Option R}{r:R}{s x:Operand}{size f:Nat}{F:Option (List AV×Nat)}(L:t.toList=[s,x])(M:∀a q,F=some (a,q)->wO P d m.get b [ev p s,ev p x]=(match ev p s with
 | .sc (.slice none 0 0)=>if q=0 then some (ev p s,m.get)else if cF q f then some (.sref d 0 0 q size true,bT m.get d (some (.row a 0 false)))else none
 | .aN i n true=>if n*size<=i.length then(if q=0 then some (ev p s,m.get)else if cF (n+q) f then some (.sref d 0 0 (n+q) size true,bT m.get d (some (.row (i.take (n*size)++a) 0 false)))else none)else none
 | .sref id o e n z true=>match m.get id with
   |some (.row i v false)=>if v=o/\z=size/\e+n*z<=i.length/\cF (n+q) f then
    if q=0 then some (ev p s,m.get)
    else if e+(n+q)*z<=i.length then some (.sref id o e (n+q) z true,bT m.get id (some (.row (cH i (e+n*z) a) v false)))
    else some (.sref id (o+1) 0 (n+q) z true,bT m.get id (some (.row ((i.drop e).take (n*z)++a) (v+1) false)))
    else none
   |_=>none
 | .sref id o e n z false=>match m.get id with
   |some (.row i v _)=>if v=o/\z=size/\e+n*z<=i.length/\cF (n+q) f then
    if q=0 then some (ev p s,m.get)
    else some (.sref d 0 0 (n+q) size true,bT m.get d (some (.row ((i.drop e).take (n*z)++a) 0 false)))
    else none
   |_=>none
 |_=>none))
    (h:cK size f d F (ev p s) m k=some r):OpOK P d ⟨E,.call ⟨.builtin .append,t,b⟩,A,pos,u,w⟩ p m k r:=by
 have g:∀v H,wO P d m.get b [ev p s,ev p x]=some (v,H.get)->H.next=m.next->k v H=some r->OpOK P d ⟨E,.call ⟨.builtin .append,t,b⟩,A,pos,u,w⟩ p m k r:=by
  intro v H N O Q
  exact⟨v,H,by simp only[aO,gQ,L,eN,kT,N],O,Q⟩
 unfold cK at h
 split at h
 .rename_i a q
  have hA':=M _ _ rfl
  split at h
  .rename_i l
   rw[l]at hA'
   simp only at hA'
   split at h
   .rename_i y
    exact g _ m (by rw[l,hA',aF y]) rfl h
   .rename_i y
    split at h
    .rename_i C
     exact g _ (m.new d (.row a 0 false)) (by rw[l,hA',aB y,aF C,Mem.get_new']) rfl h
    .cases h
  .rename_i i n l
   rw[l]at hA'
   simp only at hA'
   split at h
   .rename_i K
    rw[aF K]at hA'
    split at h
    .rename_i y
     exact g _ m (by rw[l,hA',aF y]) rfl h
    .rename_i y
     split at h
     .rename_i C
      exact g _ (m.new d (.row (i.take (n*size)++a) 0 false)) (by rw[l,hA',aB y,aF C,Mem.get_new']) rfl h
     .cases h
   .cases h
  .rename_i id o e n J l
   rw[l]at hA'
   simp only at hA'
   split at h
   .rename_i i v y
    rw[y]at hA'
    simp only at hA'
    split at h
    .rename_i C
     rw[aF C]at hA'
     split at h
     .rename_i j
      exact g _ m (by rw[l,hA',aF j]) rfl h
     .rename_i j
      split at h
      .rename_i D
       exact g _ (m.set id (.row (cH i (e+n*J) a) v false)) (by rw[l,hA',aB j,aF D,Mem.get_set']) rfl h
      .rename_i D
       exact g _ (m.set id (.row ((i.drop e).take (n*J)++a) (v+1) false)) (by rw[l,hA',aB j,aB D,Mem.get_set']) rfl h
    .cases h
   .cases h
  .rename_i id o e n J l
   rw[l]at hA'
   simp only at hA'
   split at h
   .rename_i i v fr y
    rw[y]at hA'
    simp only at hA'
    split at h
    .rename_i C
     rw[aF C]at hA'
     split at h
     .rename_i j
      exact g _ m (by rw[l,hA',aF j]) rfl h
     .rename_i j
      exact g _ (m.new d (.row ((i.drop e).take (n*J)++a) 0 false)) (by rw[l,hA',aB j,Mem.get_new']) rfl h
    .cases h
   .cases h
  .cases h
 .cases h
def x5g{c:FCtx}{L:Id}{M:Option Tmp}{b:Builtin}{F:Array Operand}{g:Array TypeId}{l:TypeId}{pos:String}{D:Array Edge}{E:Option (Nat×Bool)}{W:Nat->AV}{m:Mem}{k:AV->Mem->Option R}{r:R}(h:jO P pol call c L ⟨M,.call ⟨.builtin b,F,g⟩,l,pos,D,E⟩ W m k=some r):OpOK P L ⟨M,.call ⟨.builtin b,F,g⟩,l,pos,D,E⟩ W m k r:=by
 have p:∀(b:Builtin),(b=.cap\/b=.max\/b=.min\/b=.real\/b=.imag\/b=.complex)->(∀v,nB P b g l (F.toList.map (ev W))=some v->aO P L ⟨M,.call ⟨.builtin b,F,g⟩,l,pos,D,E⟩ W m.get=some (v,m.get)):=(by intro b hb v j;rcases hb with rfl|rfl|rfl|rfl|rfl|rfl<;>(simp only[aO,gQ];rw[j];rfl));simp only[jO]at h;cases b with
 |len=>
  simp only at h;split at h
  .rename_i t x H u;have e1':g=#[t]:=(by cases g;simpa using H);subst e1';split at h
   .rename_i C A;refine OpOK.opt h λv j=>?_
    simp only[aO,u,eN,kT,gQ];have e3':P.underlying ((#[t]:Array TypeId).getD 0 0)=some (.slice C):=A;unfold aM at j;split at j
    .rename_i o;cases j;simp only[o,e3'];rfl
    .rename_i o;cases j;simp only[o,e3'];rfl
    .rename_i n1 n2;split at j
     .rename_i w o;rw[cM]at j;obtain⟨y,O,rfl⟩:=j;have hl:Builtin.len_ #[t] l #[w]=Builtin.len_ #[t] 0 #[w]:=rfl;cases hx:ev W x<;>first|(exact absurd hx (n1 _ _ _))|(exact absurd hx (n2 _ _ _ _ _ _))|(rw[hx]at o;simp only[iR,o];rw[show([w]:List Value).toArray=#[w]from rfl,hl,O];rfl)|(rw[hx]at o;cases o)
     .cases j
   .rename_i A;refine OpOK.opt h λv j=>?_
    simp only[aO,u,eN,kT,gQ];have e3':P.underlying ((#[t]:Array TypeId).getD 0 0)=some .string:=A;unfold eD at j;split at j
    .rename_i s o;cases j;have:bJ P (Builtin.len_ #[t] l #[Value.string s])=some (.int .i64 s.size):=(by simp[Builtin.len_,underlying,program,Bind.bind,Sem.bind,bJ,Pure.pure,A,goInt]);simp only[o,iR,dL];rw[show([Value.string s]:List Value).toArray=#[Value.string s]from rfl,this];rfl
    .cases j
   .rename_i kt et A;refine OpOK.opt h λv j=>?_
    simp only[aO,u,eN,kT,gQ];have e3':P.underlying ((#[t]:Array TypeId).getD 0 0)=some (.map kt et):=A;unfold xdo at j;split at j
    .rename_i id o;split at j
     .rename_i es J;cases j;simp only[o,J,e3'];rfl
     .cases j
    .cases j
   .cases h
  .cases h
 |append=>
  simp only at h;split at h
  .rename_i t t' s x H u;split at h
   .rename_i e d A o;split at h
    .rename_i i z J K;cases Q:decide (z.length=i.size/\0<i.size)with
     |false=>rw[Q]at h;cases h
     |true=>rw[Q]at h;exact xkl u (λX q Z=>(by simp only[wO,H,A,o,J,K,aF (wA Q),Z];rfl)) h
    .cases h
   .rename_i e d A o;split at h
    .rename_i i z J K;cases Q:decide (z.length=i.size/\0<i.size)with
     |false=>rw[Q]at h;cases h
     |true=>rw[Q]at h;refine xkl u (λX q Z=>?_) h;obtain⟨n,O,h2,rfl,rfl⟩:=xsk Z;simp only[wO,H,A,o,J,K,aF (wA Q),O,aF h2];rfl
    .cases h
   .cases h
  .cases h
 |copy=>
  simp only at h;split at h
  .rename_i t ts s x H u;split at h
   .rename_i e A;split at h
    .rename_i i J;unfold xdq at h;split at h
     .rename_i src q K;split at h
      .rename_i id ver N n z f Y;split at h
       .rename_i cs v e8;split at h
        .rename_i e9;exact⟨I (Nat.min q n),m.set id (.row (cH cs N (src.take (Nat.min q n*z))) v false),by simp only[aO,gQ,zI,H,u,eN,kT,A,J,K,Y,e8,aF e9,Mem.get_set'],rfl,h⟩
        .cases h
       .cases h
      .rename_i Y;exact⟨I 0,m,by simp only[aO,gQ,zI,H,u,eN,kT,A,J,K,Y],rfl,h⟩
      .cases h
     .cases h
    .cases h
   .cases h
  .cases h
 |min=>
  simp only at h;split at h
  .rename_i t t' x y H u;split at h
   .refine OpOK.opt h λv j=>?_
    obtain⟨a,b,O,h2,rfl⟩:=xsl j;simp only[aO,gQ,u,eN,kT,O,h2];rfl
   .exact OpOK.opt h (p .min (by simp))
  .exact OpOK.opt h (p .min (by simp))
 |max=>
  simp only at h;split at h
  .rename_i t t' x y H u;split at h
   .refine OpOK.opt h λv j=>?_
    obtain⟨a,b,O,h2,rfl⟩:=xsm j;simp only[aO,gQ,u,eN,kT,O,h2];rfl
   .exact OpOK.opt h (p .max (by simp))
  .exact OpOK.opt h (p .max (by simp))
 |clear=>
  simp only at h;split at h
  .rename_i t s H u;split at h
   .rename_i C A;split at h
    .rename_i i z o J;cases hz:Nat.beq z.length i.size with
     |false=>rw[hz]at h;cases h
     |true=>
      rw[hz]at h;have hz':z.length=i.size:=gD hz;simp only[cond_true,CT]at h;split at h
      .rename_i K;exact⟨_,m,by simp only[aO,gQ,MK,H,u,eN,kT,A,o,J,aF hz',K],rfl,h⟩
      .rename_i id ver N n z' f K;split at h
       .rename_i cs v Y;split at h
        .rename_i e8;exact⟨_,m.set id (.row (cH cs N (eQ z (n*i.size))) v false),by simp only[aO,gQ,MK,H,u,eN,kT,A,o,J,aF hz',K,Y,aF e8,Mem.get_set'],rfl,h⟩
        .cases h
       .cases h
      .cases h
    .cases h
   .cases h
  .cases h
 |cap=>exact OpOK.opt h (p .cap (by simp))
 |real=>exact OpOK.opt h (p .real (by simp))
 |imag=>exact OpOK.opt h (p .imag (by simp))
 |complex=>exact OpOK.opt h (p .complex (by simp))
 |_=>cases h
def toList_map{a:Option Operand}{b:Nat->AV}:a.toList.map (ev b)=(a.map (ev b)).toList:=by cases a<;>rfl
def x5e{c:FCtx}{F:Id}{o:Oper}{O:Nat->AV}{m:Mem}{k:AV->Mem->Option R}{r:R}(hn:fV o=false)(hn2:∀rv W X at',o.op≠.call ⟨.invoke rv W,X,at'⟩)(h:jO P pol call c F o O m k=some r):OpOK P F o O m k r:=by
 obtain⟨dst,op,type,pos,after,guard⟩:=o;cases op with
 |move x=>exact⟨_,m,rfl,rfl,h⟩
 |assign x=>exact⟨_,m,rfl,rfl,h⟩
 |pick c a b=>
  refine OpOK.opt h λv j=>?_
  unfold bX at j;simp only[aO];split at j
  .rename_i t e;cases j;rw[e];cases t<;>rfl
  .cases j
 |alloc t=>
  simp only[jO]at h;split at h
  .rename_i L e;split at h
   .rename_i u hb;exact⟨.ptr F 0 0,m.new F (.bld t u []),by simp only[aO,e,hb,Mem.get_new'],rfl,h⟩
   .rename_i hb;exact⟨.ptr F 0 0,m.new F (.row L 0 false),by simp only[aO,e,hb,Mem.get_new'],rfl,h⟩
  .cases h
 |box t x=>
  simp only[jO,cX]at h;split at h
  .rename_i e;exact⟨.ptr F 0 0,m.new F (.row (ev O x).cells 0 false),by simp only[aO,e,cI,Mem.get_new'],rfl,h⟩
  .cases h
 |build t parts=>
  simp only[jO]at h;split at h
  .rename_i fs z p A;split at h
   .rename_i J D;split at h
    .rename_i ps E;refine OpOK.opt h λv j=>?_
     simp only[aO,p,A,D];rw[CR (λ_ _ _=>trivial) (xes E)];unfold dA at j;rw[cM]at j ⊢;obtain⟨L,M,rfl⟩:=j;exact⟨L,M,rfl⟩
    .cases h
   .cases h
  .rename_i n C z p A;split at h
   .rename_i i D;refine OpOK.opt h λv j=>?_
    simp only[aO,p,A,D];rw[CR (λ_ _ _=>trivial) LU];unfold dA at j;rw[cM]at j ⊢;obtain⟨L,M,rfl⟩:=j;exact⟨L,M,rfl⟩
   .cases h
  .cases h
 |buildSlice t len parts=>
  simp only[jO]at h;split at h
  .rename_i C p;split at h
   .rename_i i z A D;cases hd:decide (len*i.size<=2 ^ 24/\z.length=i.size)with
    |false=>rw[hd]at h;cases h
    |true=>
     rw[hd]at h;have hd':=wA hd;simp only[cond_true,cV]at h;split at h
     .rename_i L E;split at h
      .cases h
      .rename_i H;split at h
       .rename_i K;refine⟨_,m,?_,rfl,h⟩;simp only[aO,p,A,D,aF hd'];rw[CR (λ_ _ _=>trivial) LU,E];simp only[aB H,aF K]
       .rename_i K;refine⟨_,m.new F (.row L 0 false),?_,rfl,h⟩;simp only[aO,p,A,D,aF hd'];rw[CR (λ_ _ _=>trivial) LU,E];simp only[aB H,aB K,Mem.get_new']
     .cases h
   .cases h
  .cases h
 |load t a=>
  simp only[jO]at h;split at h
  .rename_i g z p;refine OpOK.opt h λv j=>?_
   simp only[aO,p];unfold aA at j;split at j
   .rename_i L A;rw[A];simp only
    split at j
    .cases j
    .rename_i D;rw[aB D,j];rfl
   .rename_i id ver off A;rw[A];simp only
    split at j
    .rename_i L v' fz D;rw[D];simp only
     split at j
     .rename_i E;rw[aF E,j];rfl
     .cases j
    .cases j
   .cases j
  .cases h
 |store t a x=>
  simp only[jO]at h;split at h
  .rename_i g z p;unfold bA at h;split at h
   .rename_i id ver off A;split at h
    .rename_i L v D;split at h
     .rename_i E;exact⟨U,m.set id (.row (cH L off (ev O x).cells) v false),by simp only[aO,p,A,D,aF E,Mem.get_set'],rfl,h⟩
     .cases h
    .cases h
   .cases h
  .cases h
 |nilCheck x=>
  refine OpOK.opt h λv j=>?_
  unfold cD at j;simp only[aO];split at j
  .rename_i v0 e;rw[e];split at j<;>first|(cases j;done)|(cases j;simp_all)
  .rename_i e;cases j;rw[e]
  .rename_i e;cases j;rw[e]
  .rename_i e;cases j;rw[e]
  .rename_i e;cases j;rw[e]
  .cases j
 |binOp op t x y yt=>
  have Y:(∀v,bP P op t x y (ev O x) (ev O y)=some v->aO P F ⟨dst,.binOp op t x y yt,type,pos,after,guard⟩ O m.get=some (v,m.get)):=(by intro v j;simp only[aO];rw[j];rfl);simp only[jO]at h;split at h
  .rename_i ht;cases op with
   |add=>exact OpOK.opt h λv j=>(by obtain⟨a,b,p,A,rfl⟩:=xsw j;simp only[aO,p,A,L7];rfl)
   |sub=>exact OpOK.opt h λv j=>(by obtain⟨a,b,p,A,rfl⟩:=xsd j;simp only[aO,p,A,L7];rfl)
   |mul=>exact OpOK.opt h λv j=>(by obtain⟨a,b,p,A,rfl⟩:=xsj j;simp only[aO,p,A,L7];rfl)
   |quo=>exact OpOK.opt h λv j=>(by obtain⟨a,b,p,A,D,rfl⟩:=xsf j;simp only[aO,bP,xE,p,A,L7,dL,xyt D];rfl)
   |rem=>exact OpOK.opt h λv j=>(by obtain⟨a,b,p,A,D,rfl⟩:=xse j;simp only[aO,bP,xE,p,A,dL,xys D];rfl)
   |lss=>exact OpOK.opt h λv j=>(by obtain⟨a,b,p,A,rfl⟩:=xsn j;simp only[aO,p,A];rfl)
   |leq=>exact OpOK.opt h λv j=>(by obtain⟨a,b,p,A,rfl⟩:=xso j;simp only[aO,p,A];rfl)
   |gtr=>exact OpOK.opt h λv j=>(by obtain⟨a,b,p,A,rfl⟩:=xsp j;simp only[aO,p,A];rfl)
   |geq=>exact OpOK.opt h λv j=>(by obtain⟨a,b,p,A,rfl⟩:=xsq j;simp only[aO,p,A];rfl)
   |eql=>exact OpOK.opt h λv j=>(by obtain⟨a,b,p,A,rfl⟩:=xss j;simp only[aO,p,A];rfl)
   |neq=>exact OpOK.opt h λv j=>(by obtain⟨a,b,p,A,rfl⟩:=xsi j;simp only[aO,p,A];rfl)
   |_=>exact OpOK.opt h Y
  .exact OpOK.opt h Y
 |unOp op t x=>
  have Y:(∀v,CO P op (ev O x)=some v->aO P F ⟨dst,.unOp op t x,type,pos,after,guard⟩ O m.get=some (v,m.get)):=(by intro v j;simp only[aO];rw[j];rfl);simp only[jO]at h;split at h
  .split at h
   .exact OpOK.opt h λv j=>(by obtain⟨a,p,rfl⟩:=xsh j;simp only[aO,p,L7];rfl)
   .exact OpOK.opt h Y
  .split at h
   .exact OpOK.opt h λv j=>(by obtain⟨a,p,rfl⟩:=xsg j;simp only[aO,p];rfl)
   .exact OpOK.opt h Y
 |convert src dst' x=>
  simp only[jO]at h;split at h
  .rename_i C p A;refine OpOK.opt h λv j=>?_
   unfold xdj at j;rw[cM]at j;obtain⟨s,Z,rfl⟩:=j;simp only[aO,Z]
  .rename_i M;refine OpOK.opt h λv j=>?_
   have ht:qU P m.get src dst' (ev O x)=none:=by
    unfold qU;split
    .rename_i C p A;exact(M C p A).elim
    .rfl
   simp only[aO,ht];rw[j];rfl
 |makeInterface t x=>
  refine OpOK.opt h λv j=>?_
  unfold oW at j;simp only[aO];split at j
  .rename_i u e;rw[e];rw[cM]at j ⊢;obtain⟨w,M,rfl⟩:=j;exact⟨w,M,rfl⟩
  .cases j
 |makeFunc fn first captured=>
  cases fn with
  |func f=>
   simp only[jO]at h;cases Q:Nat.beq first.size 0 with
   |false=>rw[Q]at h;cases h
   |true=>rw[Q]at h;exact⟨_,m,by simp only[aO,aF (gD Q)],rfl,h⟩
  |_=>cases h
 |makeSlice t l c=>
  simp only[jO]at h;split at h
  .rename_i C p;split at h
   .rename_i i z A D;cases Q:Nat.beq z.length i.size with
    |false=>rw[Q]at h;cases h
    |true=>
     rw[Q]at h;simp only[cond_true,sF]at h;split at h
     .rename_i l' c' E H;split at h
      .rename_i K;refine⟨_,m.new F (.row (eQ z (c'.toNat*i.size)) 0 false),?_,rfl,h⟩;simp only[aO,p,A,D,E,H];rw[aF ⟨K.1,K.2.1,K.2.2.1,K.2.2.2,gD Q⟩,Mem.get_new']
      .cases h
     .cases h
   .cases h
  .cases h
 |slice t x lo hi mx=>
  cases mx with
  |some mx=>
   cases hi with
   |none=>cases h
   |some hi=>
   rcases lo with _|lo;all_goals
    refine OpOK.opt h λv j=>?_
    unfold nV at j;simp only[aO];split at j
    .rename_i v0 p;simp only[p];split at j
     .rename_i ls h' m' A D E;dsimp only[Option.toList,Option.map_some,Option.map_none]at A;simp only[Option.toList,eN,kT,A,D,E];rw[cM]at j ⊢;obtain⟨w,M,rfl⟩:=j;exact⟨w,M,rfl⟩
     .cases j
    .rename_i p;simp only[p];split at j
     .rename_i C A;simp only[A];split at j
      .rename_i i l h' m' D E H K;dsimp only[Option.getD_some,Option.getD_none,Option.map_some,Option.map_none]at E;simp only[D,E,H,K];split at j
       .rename_i e7;split at j
        .rename_i e8;cases j;simp only[e7,aF e8]
        .cases j
       .rename_i e7;split at j
        .rename_i e8;cases j;simp only[e7,aF e8]
        .cases j
       .cases j
      .cases j
     .cases j
  |none=>
  rcases lo with _|lo<;>rcases hi with _|hi;all_goals
   dsimp only[jO,Option.map_some,Option.map_none]at h;split at h
   .rename_i n C p;split at h
    .rename_i i A;refine OpOK.opt h λv j=>?_
     unfold xdk at j;split at j
     .rename_i id ver off D;split at j
      .rename_i l h' E H;split at j
       .rename_i L v' fz K;split at j
        .rename_i e7;cases j;dsimp only[Option.getD_some,Option.getD_none]at E H;simp only[aO,D,dL,p,A,E,H,K,aF e7]
        .cases j
       .cases j
      .cases j
     .cases j
    .cases h
   .rename_i hna;refine OpOK.opt h λv j=>?_
    unfold dZ at j;simp only[aO];split at j
    .rename_i v0 p;simp only[p];split at j
     .rename_i ls Z A D;dsimp only[Option.toList]at A D;simp only[Option.toList,eN,kT,A,D];rw[cM]at j ⊢;obtain⟨w,M,rfl⟩:=j;first|exact⟨w,M,rfl⟩|(cases A.symm.trans D;exact⟨w,M,rfl⟩)
     .cases j
    .rename_i p;simp only[p];split at j
     .rename_i C A;simp only[A];split at j
      .rename_i i l D E;dsimp only[Option.getD_some,Option.getD_none]at E;simp only[D,E];split at j
       .rename_i L n x' H;simp only[H];split at j
        .rename_i h' K;dsimp only[Option.getD_some,Option.getD_none]at K;simp only[K];split at j
         .rename_i e7;cases j;rw[aF e7]
         .cases j
        .cases j
       .rename_i id ver off n z full H;simp only[H];split at j
        .rename_i h' K;dsimp only[Option.getD_some,Option.getD_none]at K;simp only[K];split at j
         .rename_i e7;cases j;rw[aF e7]
         .cases j
        .cases j
       .cases j
      .cases j
     .cases j
 |sliceToArrayPointer t x=>cases h
 |fieldAddr t x f=>
  simp only[jO]at h;split at h
  .rename_i fs p;split at h
   .rename_i fd A;split at h
    .rename_i i D;cases Q:Nat.beq i.size 0 with
     |true=>rw[Q]at h;cases h
     |false=>
      rw[Q]at h;have hz':¬i.size=0:=(by intro e;rw[e]at Q;cases Q);refine OpOK.opt h λv j=>?_
      simp only[aO,p,A,D,aB hz'];unfold aE at j;split at j
      .rename_i E;cases j;rw[E]
      .rename_i E;cases j;rw[E]
      .cases j
    .cases h
   .cases h
  .cases h
 |field t x f=>
  simp only[jO]at h;split at h
  .rename_i fs p;split at h
   .rename_i fd A;split at h
    .rename_i g z D;refine OpOK.opt h λv j=>?_
     simp only[aO,p,A,D];unfold N5 at j;split at j
     .rename_i E;rw[E];simp only[j,Option.map_some]
     .cases j
    .cases h
   .cases h
  .cases h
 |indexAddr t x ix=>
  simp only[jO]at h;split at h
  .rename_i C p;split at h
   .rename_i i A;refine OpOK.opt h λv j=>?_
    unfold aV at j;simp only[aO,p,A];split at j
    .rename_i kk D;simp only[D];split at j
     .rename_i E;simp only[E];split at j
      .rename_i H;cases j;rw[aF H]
      .cases j
     .rename_i E;simp only[E];split at j
      .rename_i H;cases j;rw[aF H]
      .cases j
     .cases j
    .cases j
   .cases h
  .rename_i n C p;split at h
   .rename_i i A;refine OpOK.opt h λv j=>?_
    unfold uH at j;simp only[aO,p,A];split at j
    .rename_i kk D;simp only[D];split at j
     .rename_i E;simp only[E];split at j
      .rename_i H;cases j;rw[aF H]
      .cases j
     .rename_i E;simp only[E];split at j
      .rename_i H;cases j;rw[aF H]
      .cases j
     .cases j
    .cases j
   .cases h
  .cases h
 |index t x ix=>
  refine OpOK.opt h λv j=>?_
  unfold kZ at j;simp only[aO];split at j
  .rename_i L p;simp only[p];split at j
   .rename_i kk n C A D;simp only[A,D];split at j
    .rename_i g z E;simp only[E];split at j
     .rename_i H;rw[aF H,j];rfl
     .cases j
    .cases j
   .cases j
  .rename_i v0 p;simp only[p];split at j
   .rename_i kk A;simp only[A];rw[cM]at j ⊢;obtain⟨w,M,rfl⟩:=j;exact⟨w,M,rfl⟩
   .cases j
  .cases j
 |extract x i=>
  refine OpOK.opt h λv j=>?_
  unfold cN at j;simp only[aO];split at j
  .rename_i p;simp only[p,j,Option.map_some]
  .cases j
 |makeMap t rs=>
  cases rs with
  |some _=>cases h
  |none=>exact⟨.mp F,m.new F (.map []),by simp only[aO,Mem.get_new'],rfl,h⟩
 |lookup t x ix ok=>
  refine OpOK.opt h λv j=>?_
  unfold yL at j;simp only[aO];split at j
  .rename_i kt et kk p A;simp only[p,A];split at j
   .rename_i d zv D E;simp only[D,E];split at j
    .rename_i es H;simp only[H];split at j
     .rename_i K;cases j;rw[aF K]
     .cases j
    .cases j
   .cases j
  .cases j
 |insert t mm ix x=>
  simp only[jO]at h;unfold uG at h;split at h
  .rename_i kt et kv id p A D;split at h
   .rename_i d es E H;split at h
    .rename_i K;exact⟨U,m.set id (.map (setKey kv (ev O x) es)),by simp only[aO,p,A,D,E,H,aF K,Mem.get_set'],rfl,h⟩
    .cases h
   .cases h
  .cases h
 |mapUpdate t mm ix x=>
  simp only[jO]at h;unfold uG at h;split at h
  .rename_i kt et kv id p A D;split at h
   .rename_i d es E H;split at h
    .rename_i K;exact⟨U,m.set id (.map (setKey kv (ev O x) es)),by simp only[aO,p,A,D,E,H,aF K,Mem.get_set'],rfl,h⟩
    .cases h
   .cases h
  .cases h
 |call cl=>
  obtain⟨callee,X,N⟩:=cl;cases callee with
  |value fv=>simp[fV]at hn
  |invoke rv W=>exact absurd rfl (hn2 rv W X N)
  |builtin b=>exact x5g h
 |_=>cases h
end Go.Ix
