import Derived.Test.YtdfahbenacjgeaaFxDefs
import Derived.IntWalk
namespace Go.Ix
variable{P:Program}{pol:Pol}{call:qI}{R:Type}
theorem x64(o:Ob)(s t a b:Nat):∀l,tI (put2 l s t o) a b=if a=s/\b=t then some o else tI l a b
 |[]=>by
  simp only[put2,tI];by_cases h:a=s/\b=t
  .obtain⟨rfl,rfl⟩:=h;simp
  .rw[xc1 h];have:(Nat.beq s a&&Nat.beq t b)=false:=(by rw[xcz];intro e;rw[xc6]at e;exact h ⟨(xcb e.1).symm,(xcb e.2).symm⟩);rw[this];rfl
 |(x,y,p)::r=>by
  simp only[put2];by_cases hx:x=s/\y=t
  .obtain⟨rfl,rfl⟩:=hx;rw[show(Nat.beq x x&&Nat.beq y y)=true from by simp];simp only[cond_true,tI];by_cases h:a=x/\b=y
   .obtain⟨rfl,rfl⟩:=h;simp
   .rw[xc1 h];have:(Nat.beq x a&&Nat.beq y b)=false:=(by rw[xcz];intro e;rw[xc6]at e;exact h ⟨(xcb e.1).symm,(xcb e.2).symm⟩);rw[this];rfl
  .have:(Nat.beq x s&&Nat.beq y t)=false:=(by rw[xcz];intro e;rw[xc6]at e;exact hx ⟨xcb e.1,xcb e.2⟩);rw[this];simp only[cond_false,tI];rw[x64 o s t a b r];by_cases h:a=s/\b=t
   .obtain⟨rfl,rfl⟩:=h;have:(Nat.beq x a&&Nat.beq y b)=false:=this;rw[this];simp
   .simp only[xc1 h]
theorem J2(f:List (Nat×Nat×Ob)->List (Nat×Nat×Ob))(u v:Nat):∀h:Hp,sJ (a9 f h u) v=if v=u then f (sJ h u)else sJ h v
 |[]=>by
  simp only[a9,sJ];by_cases e:v=u
  .subst e;simp
  .rw[xc1 e,show Nat.beq u v=false from by rw[xcz];intro x;exact e (xcb x).symm];rfl
 |(x,l)::r=>by
  simp only[a9];by_cases hx:x=u
  .subst hx;rw[show Nat.beq x x=true from by simp];simp only[cond_true,sJ];by_cases e:v=x
   .subst e;simp
   .rw[xc1 e,show Nat.beq x v=false from by rw[xcz];intro y;exact e (xcb y).symm];rfl
  .rw[show Nat.beq x u=false from by rw[xcz];intro y;exact hx (xcb y)];simp only[cond_false,sJ];rw[J2 f u v r,show Nat.beq x u=false from by rw[xcz];intro y;exact hx (xcb y)];by_cases e:v=u
   .subst e;rw[show Nat.beq x v=false from by rw[xcz];intro y;exact hx (xcb y)];simp
   .rw[xc1 e];by_cases h2:Nat.beq x v=true
    .rw[h2];simp[e]
    .rw[xgb]at h2;rw[h2];simp[e]
theorem J3(h:Hp)(i j:Id)(o:Ob):rT (hset h i o) j=if j=i then some o else rT h j:=by
 obtain⟨u,s,t⟩:=i;obtain⟨v,a,b⟩:=j;simp only[rT,hset,J2];by_cases e:v=u
 .subst e;rw[xc2 rfl,x64];by_cases h2:a=s/\b=t
  .obtain⟨rfl,rfl⟩:=h2;simp
  .rw[xc1 h2,xc1 (by simpa using h2)]
 .rw[xc1 e,xc1 (by intro x;exact e (by cases x;rfl))]
theorem hget_hnew(h:Hp)(i j:Id)(o:Ob):rT (z1 h i o) j=if j=i then some o else rT h j:=by
 obtain⟨u,s,t⟩:=i;obtain⟨v,a,b⟩:=j;simp only[rT,z1,J2];by_cases e:v=u
 .subst e;rw[xc2 rfl];simp only[tI];by_cases h2:a=s/\b=t
  .obtain⟨rfl,rfl⟩:=h2;simp
  .rw[xc1 (by simpa using h2)]
   rw[show(Nat.beq s a&&Nat.beq t b)=false from by
    rw[xcz];intro e;rw[xc6]at e
    exact h2 ⟨(xcb e.1).symm,(xcb e.2).symm⟩]
   rfl
 .rw[xc1 e,xc1 (by intro x;exact e (by cases x;rfl))]
theorem Mem.get_set(m:Mem)(i j:Id)(o:Ob):(m.set i o).get j=if j=i then some o else m.get j:=J3 m.hp i j o
theorem Mem.get_new(m:Mem)(i j:Id)(o:Ob):(m.new i o).get j=if j=i then some o else m.get j:=hget_hnew m.hp i j o
theorem Mem.get_set'(m:Mem)(i:Id)(o:Ob):(m.set i o).get=qM m.get i (some o):=funext λj=>by rw[Mem.get_set];rfl
theorem Mem.get_new'(m:Mem)(i:Id)(o:Ob):(m.new i o).get=qM m.get i (some o):=funext λj=>by rw[Mem.get_new];rfl
theorem bif_ble{k c:Nat}{x y:Int}(h:k<=c->y=x):(bif Nat.ble k c then x else y)=y:=by
 cases e:Nat.ble k c with
 |true=>exact(h (xdh e)).symm
 |false=>rfl
theorem z7(n:Int):w64 n=IntKind.i64.wrap n:=by
 cases n with
 |ofNat k=>exact bif_ble λh=>IntWalk.i64_in _ (by simp only[Int.ofNat_eq_natCast];omega)
 |negSucc k=>exact bif_ble λh=>IntWalk.i64_in _ (by omega)
theorem qQ{n:Int}(h1:-9223372036854775808<=n)(h2:n<=9223372036854775807):w64 n=n:=by rw[z7];exact IntWalk.i64_in _ ⟨h1,h2⟩
def OpOK(P:Program)(id0:Id)(o:Oper)(sl:Nat->AV)(m:Mem)(k:AV->Mem->Option R)(r:R):Prop:=
 ∃v m',qH P id0 o sl m.get=some (v,m'.get)/\m'.next=m.next/\k v m'=some r
theorem OpOK.opt{id0:Id}{o:Oper}{sl:Nat->AV}{m:Mem}{k:AV->Mem->Option R}{r:R}{x:Option AV}(h:(x.bind λv=>k v m)=some r)(hx:∀v,x=some v->qH P id0 o sl m.get=some (v,m.get)):OpOK P id0 o sl m k r:=by rw[xdb]at h;obtain⟨v,h1,h2⟩:=h;exact⟨v,m,hx v h1,rfl,h2⟩
theorem sAdd_some{a b v:AV}(h:rE a b=some v):∃x y,a=I x/\b=I y/\v=I (w64 (x+y)):=by unfold rE at h;split at h<;>simp at h;exact⟨_,_,rfl,rfl,h.symm⟩
theorem sSub_some{a b v:AV}(h:rP a b=some v):∃x y,a=I x/\b=I y/\v=I (w64 (x-y)):=by unfold rP at h;split at h<;>simp at h;exact⟨_,_,rfl,rfl,h.symm⟩
theorem sMul_some{a b v:AV}(h:yO a b=some v):∃x y,a=I x/\b=I y/\v=I (w64 (x*y)):=by unfold yO at h;split at h<;>simp at h;exact⟨_,_,rfl,rfl,h.symm⟩
theorem sQuo_some{a b v:AV}(h:xT a b=some v):∃x y,a=I x/\b=I y/\y≠0/\v=I (w64 (x.tdiv y)):=by unfold xT at h;split at h<;>simp at h;exact⟨_,_,rfl,rfl,h.1,h.2.symm⟩
theorem sRem_some{a b v:AV}(h:s9 a b=some v):∃x y,a=I x/\b=I y/\y≠0/\v=I (x.tmod y):=by unfold s9 at h;split at h<;>simp at h;exact⟨_,_,rfl,rfl,h.1,h.2.symm⟩
theorem sLt_some{a b v:AV}(h:sLt a b=some v):∃x y,a=I x/\b=I y/\v=B (decide (x<y)):=by unfold sLt at h;split at h<;>simp at h;exact⟨_,_,rfl,rfl,h.symm⟩
theorem sLe_some{a b v:AV}(h:sLe a b=some v):∃x y,a=I x/\b=I y/\v=B (decide (x<=y)):=by unfold sLe at h;split at h<;>simp at h;exact⟨_,_,rfl,rfl,h.symm⟩
theorem sGt_some{a b v:AV}(h:sGt a b=some v):∃x y,a=I x/\b=I y/\v=B (decide (y<x)):=by unfold sGt at h;split at h<;>simp at h;exact⟨_,_,rfl,rfl,h.symm⟩
theorem sGe_some{a b v:AV}(h:sGe a b=some v):∃x y,a=I x/\b=I y/\v=B (decide (y<=x)):=by unfold sGe at h;split at h<;>simp at h;exact⟨_,_,rfl,rfl,h.symm⟩
theorem sEq_some{a b v:AV}(h:sEq a b=some v):∃x y,a=I x/\b=I y/\v=B (decide (x=y)):=by unfold sEq at h;split at h<;>simp at h;exact⟨_,_,rfl,rfl,h.symm⟩
theorem sNe_some{a b v:AV}(h:sNe a b=some v):∃x y,a=I x/\b=I y/\v=B (!decide (x=y)):=by
 unfold sNe at h;split at h
 .cases h;exact⟨_,_,rfl,rfl,rfl⟩
 .cases h
theorem sNeg_some{a v:AV}(h:yP a=some v):∃x,a=I x/\v=I (w64 (0-x)):=by
 unfold yP at h;split at h
 .cases h;exact⟨_,rfl,rfl⟩
 .cases h
theorem sNot_some{a v:AV}(h:rW a=some v):∃x,a=B x/\v=B (!x):=by
 unfold rW at h;split at h
 .cases h;exact⟨_,rfl,rfl⟩
 .cases h
theorem sMin_some{a b v:AV}(h:sMin a b=some v):∃x y,a=I x/\b=I y/\v=I (if y<x then y else x):=by
 unfold sMin at h;split at h
 .cases h;exact⟨_,_,rfl,rfl,rfl⟩
 .cases h
theorem sMax_some{a b v:AV}(h:sMax a b=some v):∃x y,a=I x/\b=I y/\v=I (if y > x then y else x):=by
 unfold sMax at h;split at h
 .cases h;exact⟨_,_,rfl,rfl,rfl⟩
 .cases h
theorem x9a{t:TypeId}{x y:Operand}{a b:Int}(hb:b≠0):qR P (do eqGuard .quo t x y (.int .i64 a) (.int .i64 b);binOp .quo t (.int .i64 a) (.int .i64 b))=some (.int .i64 (IntKind.i64.wrap (a.tdiv b))):=by show qR P (Op.intDiv .quo .i64 a b)=_;unfold Op.intDiv;rw[xc1 hb];rfl
theorem x9b{t:TypeId}{x y:Operand}{a b:Int}(hb:b≠0):qR P (do eqGuard .rem t x y (.int .i64 a) (.int .i64 b);binOp .rem t (.int .i64 a) (.int .i64 b))=some (.int .i64 (a.tmod b)):=by show qR P (Op.intDiv .rem .i64 a b)=_;unfold Op.intDiv;rw[xc1 hb];rfl
theorem D8{pl:Nat->Option (Nat×Nat)}{sl:Nat->AV}:∀{parts:List (Nat×Operand)} {ps:List (Nat×Nat×AV)} {cs:List AV},
 (∀i x,(i,x)∈parts->True)->(List.map (λp:Nat×Operand=>(pl p.1).map λq=>(q.1,q.2,ev sl p.2)) parts=ps.map some) ->
 vY pl cs (parts.map λp=>(p.1,ev sl p.2))=tP cs ps
 |[],[],_,_,_=>rfl
 |[],_::_,_,_,h=>by simp at h
 |_::_,[],_,_,h=>by simp at h
 |(i,x)::parts,(off,size,v)::ps,cs,_,h=>by
  simp only[xcj,xg5]at h;obtain⟨h1,h2⟩:=h;simp only[xcj,vY,tP];cases hp:pl i with
  |none=>rw[hp]at h1;cases h1
  |some q=>
   rw[hp]at h1;simp only[Option.map_some,xc4,xc3]at h1;obtain⟨rfl,rfl,rfl⟩:=h1;simp only
   split
   .exact D8 (λ_ _ _=>trivial) h2
   .rfl
theorem x65{pl:List (Nat×Nat)}{sl:Nat->AV}:∀{parts:List (Nat×Operand)} {ps:List (Nat×Nat×AV)},D2 pl sl parts=some ps ->
 List.map (λp:Nat×Operand=>(pl[p.1]?).map λq=>(q.1,q.2,ev sl p.2)) parts=ps.map some
 |[],_,h=>by simp only[D2,xc4]at h;subst h;rfl
 |(i,x)::r,ps,h=>by
  simp only[D2]at h;split at h
  .rename_i off size e;rw[xc5]at h;obtain⟨l,h1,rfl⟩:=h;simp only[xcj,e,Option.map_some,x65 h1]
  .cases h
theorem J4{size:Nat}{sl:Nat->AV}:∀{parts:List (Nat×Operand)},
 List.map (λp:Nat×Operand=>(some (p.1*size,size):Option (Nat×Nat)).map λq=>(q.1,q.2,ev sl p.2)) parts=(D3 size sl parts).map some
 |[]=>rfl
 |(i,x)::r=>by have:=J4 (size:=size) (sl:=sl) (parts:=r);simp only[xcj,D3,Option.map_some]at this ⊢;rw[this]
theorem x9c{z:List AV}{size bytes:Nat}{x:AV}{src:List AV}{q:Nat}(h:sMore z size bytes x=some (src,q)):∃n:Int,asI x=some n/\(0<=n/\n<=2 ^ 40/\n*bytes<=2 ^ 47)/\src=sF z (n.toNat*size)/\q=n.toNat:=by
 unfold sMore at h;split at h
 .rename_i n e;split at h
  .rename_i e2;cases h;exact⟨n,e,e2,rfl,rfl⟩
  .cases h
 .cases h
theorem app_ok{id0:Id}{dst:Option Tmp}{args:Array Operand}{argTypes:Array TypeId}{type:TypeId}{pos:String}{after:Array Edge}{guard:Option (Nat×Bool)}{sl:Nat->AV}{m:Mem}{k:AV->Mem->Option R}{r:R}{s x:Operand}{size bytes:Nat}{src:Option (List AV×Nat)}(e2:args.toList=[s,x])(hA:∀src' q,src=some (src',q)->yI P id0 m.get argTypes [ev sl s,ev sl x]=(match ev sl s with
 | .sc (.slice none 0 0)=>if q=0 then some (ev sl s,m.get)else if qW q bytes then some (.sref id0 0 0 q size true,qM m.get id0 (some (.row src' 0 false)))else none
 | .slit cs n true=>if n*size<=cs.length then(if q=0 then some (ev sl s,m.get)else if qW (n+q) bytes then some (.sref id0 0 0 (n+q) size true,qM m.get id0 (some (.row (cs.take (n*size)++src') 0 false)))else none)else none
 | .sref id ver off n z true=>match m.get id with
   |some (.row cs v false)=>if v=ver/\z=size/\off+n*z<=cs.length/\qW (n+q) bytes then
    if q=0 then some (ev sl s,m.get)
    else if off+(n+q)*z<=cs.length then some (.sref id ver off (n+q) z true,qM m.get id (some (.row (rK cs (off+n*z) src') v false)))
    else some (.sref id (ver+1) 0 (n+q) z true,qM m.get id (some (.row ((cs.drop off).take (n*z)++src') (v+1) false)))
    else none
   |_=>none
 | .sref id ver off n z false=>match m.get id with
   |some (.row cs v _)=>if v=ver/\z=size/\off+n*z<=cs.length/\qW (n+q) bytes then
    if q=0 then some (ev sl s,m.get)
    else some (.sref id0 0 0 (n+q) size true,qM m.get id0 (some (.row ((cs.drop off).take (n*z)++src') 0 false)))
    else none
   |_=>none
 |_=>none))
 (h:rL size bytes id0 src (ev sl s) m k=some r):OpOK P id0 ⟨dst,.call ⟨.builtin .append,args,argTypes⟩,type,pos,after,guard⟩ sl m k r:=by
 have key:∀v m',yI P id0 m.get argTypes [ev sl s,ev sl x]=some (v,m'.get)->m'.next=m.next->k v m'=some r->OpOK P id0 ⟨dst,.call ⟨.builtin .append,args,argTypes⟩,type,pos,after,guard⟩ sl m k r:=by
  intro v m' q1 q2 q3
  exact⟨v,m',by simp only[qH,rY,e2,xcj,xcy,q1],q2,q3⟩
 unfold rL at h
 split at h
 .rename_i src' q
  have hA':=hA _ _ rfl
  split at h
  .rename_i e7
   rw[e7]at hA'
   simp only at hA'
   split at h
   .rename_i e8
    exact key _ m (by rw[e7,hA',xc2 e8]) rfl h
   .rename_i e8
    split at h
    .rename_i e9
     exact key _ (m.new id0 (.row src' 0 false)) (by rw[e7,hA',xc1 e8,xc2 e9,Mem.get_new']) rfl h
    .cases h
  .rename_i cs n e7
   rw[e7]at hA'
   simp only at hA'
   split at h
   .rename_i e71
    rw[xc2 e71]at hA'
    split at h
    .rename_i e8
     exact key _ m (by rw[e7,hA',xc2 e8]) rfl h
    .rename_i e8
     split at h
     .rename_i e9
      exact key _ (m.new id0 (.row (cs.take (n*size)++src') 0 false)) (by rw[e7,hA',xc1 e8,xc2 e9,Mem.get_new']) rfl h
     .cases h
   .cases h
  .rename_i id ver off n z' e7
   rw[e7]at hA'
   simp only at hA'
   split at h
   .rename_i cs v e8
    rw[e8]at hA'
    simp only at hA'
    split at h
    .rename_i e9
     rw[xc2 e9]at hA'
     split at h
     .rename_i e10
      exact key _ m (by rw[e7,hA',xc2 e10]) rfl h
     .rename_i e10
      split at h
      .rename_i e11
       exact key _ (m.set id (.row (rK cs (off+n*z') src') v false)) (by rw[e7,hA',xc1 e10,xc2 e11,Mem.get_set']) rfl h
      .rename_i e11
       exact key _ (m.set id (.row ((cs.drop off).take (n*z')++src') (v+1) false)) (by rw[e7,hA',xc1 e10,xc1 e11,Mem.get_set']) rfl h
    .cases h
   .cases h
  .rename_i id ver off n z' e7
   rw[e7]at hA'
   simp only at hA'
   split at h
   .rename_i cs v fr e8
    rw[e8]at hA'
    simp only at hA'
    split at h
    .rename_i e9
     rw[xc2 e9]at hA'
     split at h
     .rename_i e10
      exact key _ m (by rw[e7,hA',xc2 e10]) rfl h
     .rename_i e10
      exact key _ (m.new id0 (.row ((cs.drop off).take (n*z')++src') 0 false)) (by rw[e7,hA',xc1 e10,Mem.get_new']) rfl h
    .cases h
   .cases h
  .cases h
 .cases h
theorem x9d{c:FCtx}{id0:Id}{dst:Option Tmp}{b:Builtin}{args:Array Operand}{argTypes:Array TypeId}{type:TypeId}{pos:String}{after:Array Edge}{guard:Option (Nat×Bool)}{sl:Nat->AV}{m:Mem}{k:AV->Mem->Option R}{r:R}(h:sZ P pol call c id0 ⟨dst,.call ⟨.builtin b,args,argTypes⟩,type,pos,after,guard⟩ sl m k=some r):OpOK P id0 ⟨dst,.call ⟨.builtin b,args,argTypes⟩,type,pos,after,guard⟩ sl m k r:=by
 have gen:∀(b:Builtin),(b=.cap\/b=.max\/b=.min\/b=.real\/b=.imag\/b=.complex)->(∀v,uV P b argTypes type (args.toList.map (ev sl))=some v->qH P id0 ⟨dst,.call ⟨.builtin b,args,argTypes⟩,type,pos,after,guard⟩ sl m.get=some (v,m.get)):=(by intro b hb v hv;rcases hb with rfl|rfl|rfl|rfl|rfl|rfl<;>(simp only[qH,rY];rw[hv];rfl));simp only[sZ]at h;cases b with
 |len=>
  simp only at h;split at h
  .rename_i t x e1 e2;have e1':argTypes=#[t]:=(by cases argTypes;simpa using e1);subst e1';split at h
   .rename_i el e3;refine OpOK.opt h λv hv=>?_
    simp only[qH,e2,xcj,xcy,rY];have e3':P.underlying ((#[t]:Array TypeId).getD 0 0)=some (.slice el):=e3;unfold qJ at hv;split at hv
    .rename_i e4;cases hv;simp only[e4,e3'];rfl
    .rename_i e4;cases hv;simp only[e4,e3'];rfl
    .rename_i n1 n2;split at hv
     .rename_i w e4;rw[xc5]at hv;obtain⟨y,h1,rfl⟩:=hv;have hl:Builtin.len_ #[t] type #[w]=Builtin.len_ #[t] 0 #[w]:=rfl;cases hx:ev sl x<;>first|(exact absurd hx (n1 _ _ _))|(exact absurd hx (n2 _ _ _ _ _ _))|(rw[hx]at e4;simp only[sO,e4];rw[show([w]:List Value).toArray=#[w]from rfl,hl,h1];rfl)|(rw[hx]at e4;cases e4)
     .cases hv
   .rename_i e3;refine OpOK.opt h λv hv=>?_
    simp only[qH,e2,xcj,xcy,rY];have e3':P.underlying ((#[t]:Array TypeId).getD 0 0)=some .string:=e3;unfold yQ at hv;split at hv
    .rename_i s e4;cases hv;have:qR P (Builtin.len_ #[t] type #[Value.string s])=some (.int .i64 s.size):=(by simp[Builtin.len_,underlying,program,Bind.bind,Sem.bind,qR,Pure.pure,e3,goInt]);simp only[e4,sO,rA];rw[show([Value.string s]:List Value).toArray=#[Value.string s]from rfl,this];rfl
    .cases hv
   .rename_i kt et e3;refine OpOK.opt h λv hv=>?_
    simp only[qH,e2,xcj,xcy,rY];have e3':P.underlying ((#[t]:Array TypeId).getD 0 0)=some (.map kt et):=e3;unfold sLenM at hv;split at hv
    .rename_i id e4;split at hv
     .rename_i es e5;cases hv;simp only[e4,e5,e3'];rfl
     .cases hv
    .cases hv
   .cases h
  .cases h
 |append=>
  simp only at h;split at h
  .rename_i t t' s x e1 e2;split at h
   .rename_i e d e3 e4;split at h
    .rename_i i z e5 e6;cases hd:decide (z.length=i.size/\0<i.size)with
     |false=>rw[hd]at h;cases h
     |true=>rw[hd]at h;exact app_ok e2 (λsrc' q hs=>(by simp only[yI,e1,e3,e4,e5,e6,xc2 (xdz hd),hs];rfl)) h
    .cases h
   .rename_i e d e3 e4;split at h
    .rename_i i z e5 e6;cases hd:decide (z.length=i.size/\0<i.size)with
     |false=>rw[hd]at h;cases h
     |true=>rw[hd]at h;refine app_ok e2 (λsrc' q hs=>?_) h;obtain⟨n,h1,h2,rfl,rfl⟩:=x9c hs;simp only[yI,e1,e3,e4,e5,e6,xc2 (xdz hd),h1,xc2 h2];rfl
    .cases h
   .cases h
  .cases h
 |copy=>
  simp only at h;split at h
  .rename_i t ts s x e1 e2;split at h
   .rename_i e e3;split at h
    .rename_i i e5;unfold sCpy at h;split at h
     .rename_i src q e6;split at h
      .rename_i id ver off n z f e7;split at h
       .rename_i cs v e8;split at h
        .rename_i e9;exact⟨I (Nat.min q n),m.set id (.row (rK cs off (src.take (Nat.min q n*z))) v false),by simp only[qH,rY,zI,e1,e2,xcj,xcy,e3,e5,e6,e7,e8,xc2 e9,Mem.get_set'],rfl,h⟩
        .cases h
       .cases h
      .rename_i e7;exact⟨I 0,m,by simp only[qH,rY,zI,e1,e2,xcj,xcy,e3,e5,e6,e7],rfl,h⟩
      .cases h
     .cases h
    .cases h
   .cases h
  .cases h
 |min=>
  simp only at h;split at h
  .rename_i t t' x y e1 e2;split at h
   .refine OpOK.opt h λv hv=>?_
    obtain⟨a,b,h1,h2,rfl⟩:=sMin_some hv;simp only[qH,rY,e2,xcj,xcy,h1,h2];rfl
   .exact OpOK.opt h (gen .min (by simp))
  .exact OpOK.opt h (gen .min (by simp))
 |max=>
  simp only at h;split at h
  .rename_i t t' x y e1 e2;split at h
   .refine OpOK.opt h λv hv=>?_
    obtain⟨a,b,h1,h2,rfl⟩:=sMax_some hv;simp only[qH,rY,e2,xcj,xcy,h1,h2];rfl
   .exact OpOK.opt h (gen .max (by simp))
  .exact OpOK.opt h (gen .max (by simp))
 |clear=>
  simp only at h;split at h
  .rename_i t s e1 e2;split at h
   .rename_i el e3;split at h
    .rename_i i z e4 e5;cases hz:Nat.beq z.length i.size with
     |false=>rw[hz]at h;cases h
     |true=>
      rw[hz]at h;have hz':z.length=i.size:=xcb hz;simp only[cond_true,sClr]at h;split at h
      .rename_i e6;exact⟨_,m,by simp only[qH,rY,G6,e1,e2,xcj,xcy,e3,e4,e5,xc2 hz',e6],rfl,h⟩
      .rename_i id ver off n z' f e6;split at h
       .rename_i cs v e7;split at h
        .rename_i e8;exact⟨_,m.set id (.row (rK cs off (sF z (n*i.size))) v false),by simp only[qH,rY,G6,e1,e2,xcj,xcy,e3,e4,e5,xc2 hz',e6,e7,xc2 e8,Mem.get_set'],rfl,h⟩
        .cases h
       .cases h
      .cases h
    .cases h
   .cases h
  .cases h
 |cap=>exact OpOK.opt h (gen .cap (by simp))
 |real=>exact OpOK.opt h (gen .real (by simp))
 |imag=>exact OpOK.opt h (gen .imag (by simp))
 |complex=>exact OpOK.opt h (gen .complex (by simp))
 |_=>cases h
theorem toList_map{lo:Option Operand}{sl:Nat->AV}:lo.toList.map (ev sl)=(lo.map (ev sl)).toList:=by cases lo<;>rfl
theorem fxOp_ok{c:FCtx}{id0:Id}{o:Oper}{sl:Nat->AV}{m:Mem}{k:AV->Mem->Option R}{r:R}(hn:rN o=false)(hn2:∀rv name args at',o.op≠.call ⟨.invoke rv name,args,at'⟩)(h:sZ P pol call c id0 o sl m k=some r):OpOK P id0 o sl m k r:=by
 obtain⟨dst,op,type,pos,after,guard⟩:=o;cases op with
 |move x=>exact⟨_,m,rfl,rfl,h⟩
 |assign x=>exact⟨_,m,rfl,rfl,h⟩
 |pick c a b=>
  refine OpOK.opt h λv hv=>?_
  unfold qU at hv;simp only[qH];split at hv
  .rename_i t e;cases hv;rw[e];cases t<;>rfl
  .cases hv
 |alloc t=>
  simp only[sZ]at h;split at h
  .rename_i cs e;split at h
   .rename_i u hb;exact⟨.ptr id0 0 0,m.new id0 (.bld t u []),by simp only[qH,e,hb,Mem.get_new'],rfl,h⟩
   .rename_i hb;exact⟨.ptr id0 0 0,m.new id0 (.row cs 0 false),by simp only[qH,e,hb,Mem.get_new'],rfl,h⟩
  .cases h
 |box t x=>
  simp only[sZ,sA]at h;split at h
  .rename_i e;exact⟨.ptr id0 0 0,m.new id0 (.row (ev sl x).cells 0 false),by simp only[qH,e,xcm,Mem.get_new'],rfl,h⟩
  .cases h
 |build t parts=>
  simp only[sZ]at h;split at h
  .rename_i fs z e1 e2;split at h
   .rename_i pl e3;split at h
    .rename_i ps e4;refine OpOK.opt h λv hv=>?_
     simp only[qH,e1,e2,e3];rw[D8 (λ_ _ _=>trivial) (x65 e4)];unfold rI at hv;rw[xc5]at hv ⊢;obtain⟨cs,h1,rfl⟩:=hv;exact⟨cs,h1,rfl⟩
    .cases h
   .cases h
  .rename_i n el z e1 e2;split at h
   .rename_i i e3;refine OpOK.opt h λv hv=>?_
    simp only[qH,e1,e2,e3];rw[D8 (λ_ _ _=>trivial) J4];unfold rI at hv;rw[xc5]at hv ⊢;obtain⟨cs,h1,rfl⟩:=hv;exact⟨cs,h1,rfl⟩
   .cases h
  .cases h
 |buildSlice t len parts=>
  simp only[sZ]at h;split at h
  .rename_i el e1;split at h
   .rename_i i z e2 e3;cases hd:decide (len*i.size<=2 ^ 24/\z.length=i.size)with
    |false=>rw[hd]at h;cases h
    |true=>
     rw[hd]at h;have hd':=xdz hd;simp only[cond_true,sY]at h;split at h
     .rename_i cs e4;split at h
      .cases h
      .rename_i e5;split at h
       .rename_i e6;refine⟨_,m,?_,rfl,h⟩;simp only[qH,e1,e2,e3,xc2 hd'];rw[D8 (λ_ _ _=>trivial) J4,e4];simp only[xc1 e5,xc2 e6]
       .rename_i e6;refine⟨_,m.new id0 (.row cs 0 false),?_,rfl,h⟩;simp only[qH,e1,e2,e3,xc2 hd'];rw[D8 (λ_ _ _=>trivial) J4,e4];simp only[xc1 e5,xc1 e6,Mem.get_new']
     .cases h
   .cases h
  .cases h
 |load t a=>
  simp only[sZ]at h;split at h
  .rename_i g z e1;refine OpOK.opt h λv hv=>?_
   simp only[qH,e1];unfold sLd at hv;split at hv
   .rename_i cs e2;rw[e2];simp only
    split at hv
    .cases hv
    .rename_i e3;rw[xc1 e3,hv];rfl
   .rename_i id ver off e2;rw[e2];simp only
    split at hv
    .rename_i cs v' fz e3;rw[e3];simp only
     split at hv
     .rename_i e4;rw[xc2 e4,hv];rfl
     .cases hv
    .cases hv
   .cases hv
  .cases h
 |store t a x=>
  simp only[sZ]at h;split at h
  .rename_i g z e1;unfold sSt at h;split at h
   .rename_i id ver off e2;split at h
    .rename_i cs v e3;split at h
     .rename_i e4;exact⟨U,m.set id (.row (rK cs off (ev sl x).cells) v false),by simp only[qH,e1,e2,e3,xc2 e4,Mem.get_set'],rfl,h⟩
     .cases h
    .cases h
   .cases h
  .cases h
 |nilCheck x=>
  refine OpOK.opt h λv hv=>?_
  unfold sNil at hv;simp only[qH];split at hv
  .rename_i v0 e;rw[e];split at hv<;>first|(cases hv;done)|(cases hv;simp_all)
  .rename_i e;cases hv;rw[e]
  .rename_i e;cases hv;rw[e]
  .rename_i e;cases hv;rw[e]
  .rename_i e;cases hv;rw[e]
  .cases hv
 |binOp op t x y yt=>
  have gen:(∀v,qT P op t x y (ev sl x) (ev sl y)=some v->qH P id0 ⟨dst,.binOp op t x y yt,type,pos,after,guard⟩ sl m.get=some (v,m.get)):=(by intro v hv;simp only[qH];rw[hv];rfl);simp only[sZ]at h;split at h
  .rename_i ht;cases op with
   |add=>exact OpOK.opt h λv hv=>(by obtain⟨a,b,e1,e2,rfl⟩:=sAdd_some hv;simp only[qH,e1,e2,z7];rfl)
   |sub=>exact OpOK.opt h λv hv=>(by obtain⟨a,b,e1,e2,rfl⟩:=sSub_some hv;simp only[qH,e1,e2,z7];rfl)
   |mul=>exact OpOK.opt h λv hv=>(by obtain⟨a,b,e1,e2,rfl⟩:=sMul_some hv;simp only[qH,e1,e2,z7];rfl)
   |quo=>exact OpOK.opt h λv hv=>(by obtain⟨a,b,e1,e2,e3,rfl⟩:=sQuo_some hv;simp only[qH,qT,y4,e1,e2,z7,rA,x9a e3];rfl)
   |rem=>exact OpOK.opt h λv hv=>(by obtain⟨a,b,e1,e2,e3,rfl⟩:=sRem_some hv;simp only[qH,qT,y4,e1,e2,rA,x9b e3];rfl)
   |lss=>exact OpOK.opt h λv hv=>(by obtain⟨a,b,e1,e2,rfl⟩:=sLt_some hv;simp only[qH,e1,e2];rfl)
   |leq=>exact OpOK.opt h λv hv=>(by obtain⟨a,b,e1,e2,rfl⟩:=sLe_some hv;simp only[qH,e1,e2];rfl)
   |gtr=>exact OpOK.opt h λv hv=>(by obtain⟨a,b,e1,e2,rfl⟩:=sGt_some hv;simp only[qH,e1,e2];rfl)
   |geq=>exact OpOK.opt h λv hv=>(by obtain⟨a,b,e1,e2,rfl⟩:=sGe_some hv;simp only[qH,e1,e2];rfl)
   |eql=>exact OpOK.opt h λv hv=>(by obtain⟨a,b,e1,e2,rfl⟩:=sEq_some hv;simp only[qH,e1,e2];rfl)
   |neq=>exact OpOK.opt h λv hv=>(by obtain⟨a,b,e1,e2,rfl⟩:=sNe_some hv;simp only[qH,e1,e2];rfl)
   |_=>exact OpOK.opt h gen
  .exact OpOK.opt h gen
 |unOp op t x=>
  have gen:(∀v,sUn P op (ev sl x)=some v->qH P id0 ⟨dst,.unOp op t x,type,pos,after,guard⟩ sl m.get=some (v,m.get)):=(by intro v hv;simp only[qH];rw[hv];rfl);simp only[sZ]at h;split at h
  .split at h
   .exact OpOK.opt h λv hv=>(by obtain⟨a,e1,rfl⟩:=sNeg_some hv;simp only[qH,e1,z7];rfl)
   .exact OpOK.opt h gen
  .split at h
   .exact OpOK.opt h λv hv=>(by obtain⟨a,e1,rfl⟩:=sNot_some hv;simp only[qH,e1];rfl)
   .exact OpOK.opt h gen
 |convert src dst' x=>
  simp only[sZ]at h;split at h
  .rename_i el e1 e2;refine OpOK.opt h λv hv=>?_
   unfold sTxt at hv;rw[xc5]at hv;obtain⟨s,hs,rfl⟩:=hv;simp only[qH,hs]
  .rename_i h1;refine OpOK.opt h λv hv=>?_
   have ht:vZ P m.get src dst' (ev sl x)=none:=by
    unfold vZ;split
    .rename_i el e1 e2;exact(h1 el e1 e2).elim
    .rfl
   simp only[qH,ht];rw[hv];rfl
 |makeInterface t x=>
  refine OpOK.opt h λv hv=>?_
  unfold sMkI at hv;simp only[qH];split at hv
  .rename_i u e;rw[e];rw[xc5]at hv ⊢;obtain⟨w,h1,rfl⟩:=hv;exact⟨w,h1,rfl⟩
  .cases hv
 |makeFunc fn first captured=>
  cases fn with
  |func f=>
   simp only[sZ]at h;cases hz:Nat.beq first.size 0 with
   |false=>rw[hz]at h;cases h
   |true=>rw[hz]at h;exact⟨_,m,by simp only[qH,xc2 (xcb hz)],rfl,h⟩
  |_=>cases h
 |makeSlice t l c=>
  simp only[sZ]at h;split at h
  .rename_i el e1;split at h
   .rename_i i z e2 e3;cases hz:Nat.beq z.length i.size with
    |false=>rw[hz]at h;cases h
    |true=>
     rw[hz]at h;simp only[cond_true,b9]at h;split at h
     .rename_i l' c' e4 e5;split at h
      .rename_i e6;refine⟨_,m.new id0 (.row (sF z (c'.toNat*i.size)) 0 false),?_,rfl,h⟩;simp only[qH,e1,e2,e3,e4,e5];rw[xc2 ⟨e6.1,e6.2.1,e6.2.2.1,e6.2.2.2,xcb hz⟩,Mem.get_new']
      .cases h
     .cases h
   .cases h
  .cases h
 |slice t x lo hi mx=>
  cases mx with
  |some mx=>
   cases hi with
   |none=>cases h
   |some hi=>
   rcases lo with _|lo;all_goals
    refine OpOK.opt h λv hv=>?_
    unfold sSl3 at hv;simp only[qH];split at hv
    .rename_i v0 e1;simp only[e1];split at hv
     .rename_i ls h' m' e2 e3 e4;dsimp only[Option.toList,Option.map_some,Option.map_none]at e2;simp only[Option.toList,xcj,xcy,e2,e3,e4];rw[xc5]at hv ⊢;obtain⟨w,h1,rfl⟩:=hv;exact⟨w,h1,rfl⟩
     .cases hv
    .rename_i e1;simp only[e1];split at hv
     .rename_i el e2;simp only[e2];split at hv
      .rename_i i l h' m' e3 e4 e5 e6;dsimp only[Option.getD_some,Option.getD_none,Option.map_some,Option.map_none]at e4;simp only[e3,e4,e5,e6];split at hv
       .rename_i e7;split at hv
        .rename_i e8;cases hv;simp only[e7,xc2 e8]
        .cases hv
       .rename_i e7;split at hv
        .rename_i e8;cases hv;simp only[e7,xc2 e8]
        .cases hv
       .cases hv
      .cases hv
     .cases hv
  |none=>
  rcases lo with _|lo<;>rcases hi with _|hi;all_goals
   dsimp only[sZ,Option.map_some,Option.map_none]at h;split at h
   .rename_i n el e1;split at h
    .rename_i i e2;refine OpOK.opt h λv hv=>?_
     unfold sSlA at hv;split at hv
     .rename_i id ver off e3;split at hv
      .rename_i l h' e4 e5;split at hv
       .rename_i cs v' fz e6;split at hv
        .rename_i e7;cases hv;dsimp only[Option.getD_some,Option.getD_none]at e4 e5;simp only[qH,e3,rA,e1,e2,e4,e5,e6,xc2 e7]
        .cases hv
       .cases hv
      .cases hv
     .cases hv
    .cases h
   .rename_i hna;refine OpOK.opt h λv hv=>?_
    unfold xU at hv;simp only[qH];split at hv
    .rename_i v0 e1;simp only[e1];split at hv
     .rename_i ls hs e2 e3;dsimp only[Option.toList]at e2 e3;simp only[Option.toList,xcj,xcy,e2,e3];rw[xc5]at hv ⊢;obtain⟨w,h1,rfl⟩:=hv;first|exact⟨w,h1,rfl⟩|(cases e2.symm.trans e3;exact⟨w,h1,rfl⟩)
     .cases hv
    .rename_i e1;simp only[e1];split at hv
     .rename_i el e2;simp only[e2];split at hv
      .rename_i i l e3 e4;dsimp only[Option.getD_some,Option.getD_none]at e4;simp only[e3,e4];split at hv
       .rename_i cs n x' e5;simp only[e5];split at hv
        .rename_i h' e6;dsimp only[Option.getD_some,Option.getD_none]at e6;simp only[e6];split at hv
         .rename_i e7;cases hv;rw[xc2 e7]
         .cases hv
        .cases hv
       .rename_i id ver off n z full e5;simp only[e5];split at hv
        .rename_i h' e6;dsimp only[Option.getD_some,Option.getD_none]at e6;simp only[e6];split at hv
         .rename_i e7;cases hv;rw[xc2 e7]
         .cases hv
        .cases hv
       .cases hv
      .cases hv
     .cases hv
 |sliceToArrayPointer t x=>
  simp only[sZ]at h;split at h
  .rename_i n el e1;refine OpOK.opt h λv hv=>?_
   simp only[qH,e1];unfold sS2A at hv;split at hv
   .rename_i e4;rw[e4];split at hv
    .rename_i e5;cases hv;simp only;rw[xc2 e5]
    .cases hv
   .rename_i e4;rw[e4];split at hv
    .rename_i e5;cases hv;simp only;rw[xc2 e5]
    .cases hv
   .cases hv
  .cases h
 |fieldAddr t x f=>
  simp only[sZ]at h;split at h
  .rename_i fs e1;split at h
   .rename_i fd e2;split at h
    .rename_i i e3;cases hz:Nat.beq i.size 0 with
     |true=>rw[hz]at h;cases h
     |false=>
      rw[hz]at h;have hz':¬i.size=0:=(by intro e;rw[e]at hz;cases hz);refine OpOK.opt h λv hv=>?_
      simp only[qH,e1,e2,e3,xc1 hz'];unfold sFA at hv;split at hv
      .rename_i e4;cases hv;rw[e4]
      .rename_i e4;cases hv;rw[e4]
      .cases hv
    .cases h
   .cases h
  .cases h
 |field t x f=>
  simp only[sZ]at h;split at h
  .rename_i fs e1;split at h
   .rename_i fd e2;split at h
    .rename_i g z e3;refine OpOK.opt h λv hv=>?_
     simp only[qH,e1,e2,e3];unfold sFld at hv;split at hv
     .rename_i e4;rw[e4];simp only[hv,Option.map_some]
     .cases hv
    .cases h
   .cases h
  .cases h
 |indexAddr t x ix=>
  simp only[sZ]at h;split at h
  .rename_i el e1;split at h
   .rename_i i e2;refine OpOK.opt h λv hv=>?_
    unfold sIx at hv;simp only[qH,e1,e2];split at hv
    .rename_i kk e3;simp only[e3];split at hv
     .rename_i e4;simp only[e4];split at hv
      .rename_i e5;cases hv;rw[xc2 e5]
      .cases hv
     .rename_i e4;simp only[e4];split at hv
      .rename_i e5;cases hv;rw[xc2 e5]
      .cases hv
     .cases hv
    .cases hv
   .cases h
  .rename_i n el e1;split at h
   .rename_i i e2;refine OpOK.opt h λv hv=>?_
    unfold tE at hv;simp only[qH,e1,e2];split at hv
    .rename_i kk e3;simp only[e3];split at hv
     .rename_i e4;simp only[e4];split at hv
      .rename_i e5;cases hv;rw[xc2 e5]
      .cases hv
     .rename_i e4;simp only[e4];split at hv
      .rename_i e5;cases hv;rw[xc2 e5]
      .cases hv
     .cases hv
    .cases hv
   .cases h
  .cases h
 |index t x ix=>
  refine OpOK.opt h λv hv=>?_
  unfold wG at hv;simp only[qH];split at hv
  .rename_i cs e1;simp only[e1];split at hv
   .rename_i kk n el e2 e3;simp only[e2,e3];split at hv
    .rename_i g z e4;simp only[e4];split at hv
     .rename_i e5;rw[xc2 e5,hv];rfl
     .cases hv
    .cases hv
   .cases hv
  .rename_i v0 e1;simp only[e1];split at hv
   .rename_i kk e2;simp only[e2];rw[xc5]at hv ⊢;obtain⟨w,h1,rfl⟩:=hv;exact⟨w,h1,rfl⟩
   .cases hv
  .cases hv
 |extract x i=>
  refine OpOK.opt h λv hv=>?_
  unfold sB at hv;simp only[qH];split at hv
  .rename_i e1;simp only[e1,hv,Option.map_some]
  .cases hv
 |makeMap t rs=>
  cases rs with
  |some _=>cases h
  |none=>exact⟨.mp id0,m.new id0 (.map []),by simp only[qH,Mem.get_new'],rfl,h⟩
 |lookup t x ix ok=>
  refine OpOK.opt h λv hv=>?_
  unfold C9 at hv;simp only[qH];split at hv
  .rename_i kt et kk e1 e2;simp only[e1,e2];split at hv
   .rename_i d zv e3 e4;simp only[e3,e4];split at hv
    .rename_i es e5;simp only[e5];split at hv
     .rename_i e6;cases hv;rw[xc2 e6]
     .cases hv
    .cases hv
   .cases hv
  .cases hv
 |insert t mm ix x=>
  simp only[sZ]at h;unfold u1 at h;split at h
  .rename_i kt et kv id e1 e2 e3;split at h
   .rename_i d es e4 e5;split at h
    .rename_i e6;exact⟨U,m.set id (.map (setKey kv (ev sl x) es)),by simp only[qH,e1,e2,e3,e4,e5,xc2 e6,Mem.get_set'],rfl,h⟩
    .cases h
   .cases h
  .cases h
 |mapUpdate t mm ix x=>
  simp only[sZ]at h;unfold u1 at h;split at h
  .rename_i kt et kv id e1 e2 e3;split at h
   .rename_i d es e4 e5;split at h
    .rename_i e6;exact⟨U,m.set id (.map (setKey kv (ev sl x) es)),by simp only[qH,e1,e2,e3,e4,e5,xc2 e6,Mem.get_set'],rfl,h⟩
    .cases h
   .cases h
  .cases h
 |call cl=>
  obtain⟨callee,args,argTypes⟩:=cl;cases callee with
  |value fv=>simp[rN]at hn
  |invoke rv name=>exact absurd rfl (hn2 rv name args argTypes)
  |builtin b=>exact x9d h
 |_=>cases h
end Go.Ix
