import Derived.Test.YtjngclcijnpooaaGreatDoorIxC
import Derived.Orders
set_option linter.all false
namespace Go.Ix
section
variable{P:Program}{id0:Id}{o:Oper}{sl sl2:Nat->AV}{aC objs':Id->Option Ob}
def EG{l:List Operand}(h:∀x∈l,ev sl2 x=ev sl x):l.map (ev sl2)=l.map (ev sl):=xh9 h
def xdd{l:List (Nat×Operand)}(h:∀x∈l.map (·.2),ev sl2 x=ev sl x):(l.map λ(i,x)=>(i,ev sl2 x))=l.map λ(i,x)=>(i,ev sl x):=
 xh9 λp a=>by have:=h p.2 (ew a);obtain⟨i,x⟩:=p;simp only at this ⊢;rw[this]
def xzu(h:∀x∈o.op.operands.toList,ev sl2 x=ev sl x):aO P id0 o sl2 aC=aO P id0 o sl aC:=by
 unfold aO;cases d:o.op with
 |build t g=>simp only[d,Op.operands]at h;simp only[xdd h]
 |buildSlice t n g=>simp only[d,Op.operands]at h;simp only[xdd h]
 |makeFunc fn first a=>simp only[d,Op.operands]at h;have:=EG (l:=a.toList) (λx b=>h x (by simp at b ⊢;exact .inr b));cases fn<;>simp only[this]
 |call c=>simp only[d,Op.operands]at h;have:=EG (l:=c.args.toList) (λx b=>h x (by simp[Call.operands]at b ⊢;first|exact .inl b|exact .inr b|exact b|(cases c.callee<;>simp_all)));cases c.callee<;>simp only[this]
 |slice t x e f i=>
  simp only[d,Op.operands]at h;have b:=h x (by simp);cases i with
  |some m=>cases e<;>cases f<;>simp_all
  |none=>cases e<;>cases f<;>simp_all
 |makeMap t r=>cases r<;>rfl
 |alloc t=>rfl
 |_=>simp only[d,Op.operands]at h;simp at h;simp only[h]
def Foot(P:Program)(f:Id)(o:Oper)(g:Nat->AV)(e d:Id->Option Ob)(v:AV)(R W:List Id):Prop:=
 (∀id,id∉W->d id=e id)/\∀b:Id->Option Ob,(∀id,id∈R\/id∈W->b id=e id)->∃a,aO P f o g b=some (v,a)/\(∀id∈W,a id=d id)/\∀id,id∉W->a id=b id
def Foot.pure{v:AV}{R W:List Id}(h:aO P id0 o sl aC=some (v,objs'))(f:∀a,∃g:Option AV,aO P id0 o sl a=g.map (λv=>(v,a))/\aO P id0 o sl aC=g.map (λv=>(v,aC))):Foot P id0 o sl aC objs' v R W:=by
 have b:∀a,aO P id0 o sl a=some (v,a)/\objs'=aC:=by
  intro a;obtain⟨g,j,d⟩:=f a;rw[d]at h;cases g with
  |none=>simp at h
  |some x=>simp at h;rw[j];simp[h.1,h.2]
 have i:=(b aC).2;subst i;exact⟨λ_ _=>rfl,λa d=>⟨a,(b a).1,λid e=>d id (.inr e),λ_ _=>rfl⟩⟩
def xg5:Op->Bool
 | .move _ | .assign _ | .pick .. | .binOp .. | .unOp .. | .convert .. | .sliceToArrayPointer .. | .fieldAddr .. | .field .. | .indexAddr .. | .index .. | .extract .. | .build .. | .nilCheck _ | .makeFunc ..=>true
 |_=>false
def xml{e f:TypeId}{x:Operand}(h:o.op=.convert e f x)(i:mapLen P o sl=false)(d b:Id->Option Ob):qG P d e f (ev sl x)=qG P b e f (ev sl x):=by
 unfold qG;split
 .rename_i C Z j;have g:xec (ev sl x)=false:=(by simpa[mapLen,h,Z,j]using i);have l:elems d 1 (ev sl x)=elems b 1 (ev sl x):=by
   cases m:ev sl x with
   |sref _ _ _ _ _ _=>rw[m]at g;cases g
   |sc v=>cases v<;>first|rfl|(rename_i a n c;cases a<;>cases n<;>rfl)
   |_=>rfl
  rw[l]
 .rfl
def x8a{v:AV}{R W:List Id}(f:xg5 o.op=true)(g:mapLen P o sl=false)(h:aO P id0 o sl aC=some (v,objs')):Foot P id0 o sl aC objs' v R W:=by
 refine .pure h λe=>?_
 cases a:o.op with
 |move x=>exact⟨some (ev sl x),by simp[aO,a],by simp[aO,a]⟩
 |assign x=>exact⟨some (ev sl x),by simp[aO,a],by simp[aO,a]⟩
 |convert s d x=>
  refine⟨(match qG P aC s d (ev sl x)with|some b=>some (.sc (.string b))|none=>mM P s d (ev sl x)),?_,?_⟩
  .simp only[aO,a,xml a g e aC];cases qG P aC s d (ev sl x)<;>rfl
  .simp only[aO,a];cases qG P aC s d (ev sl x)<;>rfl
 |_=>
  (try (simp[a,xg5]at f;done)) <;>
  (refine⟨(aO P id0 o sl aC).map (·.1),?_,?_⟩<;>simp only[aO,a]<;>(repeat' split)<;>first|rfl|simp_all [Option.map_map,Function.comp_def])
def Foot.mk'{v:AV}{R W:List Id}(h:aO P id0 o sl aC=some (v,objs'))(d:∀id,id∉W->objs' id=aC id)(e:∀a:Id->Option Ob,(∀id,id∈R\/id∈W->a id=aC id)->aO P id0 o sl a=some (v,λid=>if id∈W then objs' id else a id)):Foot P id0 o sl aC objs' v R W:=
 ⟨d,λa f=>⟨_,e a f,λid b=>by simp[b],λid b=>by simp[b]⟩⟩
def qC{id:Id}{x:Option Ob}{i:Id}(h:i∉[id]):bH aC id x i=aC i:=by simp at h;simp[bH,h]
def qD{a:Id->Option Ob}{id:Id}{x:Option Ob}:(λi=>if i∈[id]then bH aC id x i else a i)=bH a id x:=by funext i;simp only[bH,pS];split<;>rfl
def v7{a:Id->Option Ob}{R W:List Id}(h:∀id,id∈R\/id∈W->a id=aC id):(λi=>if i∈W then aC i else a i)=a:=by
 funext i;split
 .rename_i b;exact(h i (.inr b)).symm
 .rfl
def ET{v:AV}(h:aO P id0 o sl aC=some (v,objs'))(j:(match o.op with | .alloc _ | .box _ _ | .makeSlice .. | .makeMap .. | .buildSlice ..=>true|_=>false)=true):Foot P id0 o sl aC objs' v [] [id0]:=by
 cases b:o.op with
 |alloc t=>
  simp only[aO,b]at h;split at h
  .rename_i m g;split at h
   .rename_i e i;cases h;exact .mk' (by simp[aO,b,g,i]) (λ_ d=>qC d) λa f=>by rw[qD];simp[aO,b,g,i]
   .rename_i i;cases h;exact .mk' (by simp[aO,b,g,i]) (λ_ d=>qC d) λa f=>by rw[qD];simp[aO,b,g,i]
  .cases h
 |box t x=>
  simp only[aO,b]at h;split at h
  .rename_i g;cases h;exact .mk' (by simp only[aO,b];rw[aF g]) (λ_ d=>qC d) λa f=>by rw[qD];simp only[aO,b];rw[aF g]
  .cases h
 |makeMap t r=>
  cases r with
  |some r=>simp[aO,b]at h
  |none=>simp only[aO,b]at h;cases h;exact .mk' (by simp[aO,b]) (λ_ d=>qC d) λa f=>by rw[qD];simp[aO,b]
 |makeSlice t l c=>
  simp only[aO,b]at h;split at h
  .split at h
   .split at h
    .cases h;exact .mk' (by simp_all [aO]) (λ_ d=>qC d) λa f=>by rw[qD];simp_all [aO]
    .cases h
   .cases h
  .cases h
 |buildSlice t n p=>
  simp only[aO,b]at h;split at h
  .split at h
   .split at h
    .split at h
     .split at h
      .cases h
      .split at h
       .cases h;exact .mk' (by simp_all [aO]) (λ_ _=>rfl) λa f=>by rw[v7 f];simp_all [aO]
       .cases h;exact .mk' (by simp_all [aO]) (λ_ d=>qC d) λa f=>by rw[qD];simp_all [aO]
     .cases h
    .cases h
   .cases h
  .cases h
 |_=>simp[b]at j
def uA{v:AV}{R W:List Id}(h:aO P id0 o sl aC=some (v,objs'))(j:dV id0 o sl=(some R,some W))(D:mapLen P o sl=false)(n:(match o.op with | .load .. | .lookup .. | .slice ..=>true | .call c=>(match c.callee with | .builtin .len | .builtin .min | .builtin .max | .builtin .cap | .builtin .real | .builtin .imag | .builtin .complex=>true|_=>false)|_=>false)=true):Foot P id0 o sl aC objs' v R W:=by
 have u:objs'=aC/\∀d:Id->Option Ob,(∀id,id∈R\/id∈W->d id=aC id)->aO P id0 o sl d=some (v,d):=by
  cases f:o.op with
  |load t a=>
   simp only[dV,f]at j;simp only[aO,f]at h ⊢;split at h
   .rename_i g z K;split at h
    .rename_i L y;split at h
     .cases h
     .rename_i M;simp only[cE,bF]at h;obtain⟨r,C,rfl,rfl⟩:=h;exact⟨rfl,λd _=>by simp[C,M]⟩
    .rename_i id E F y;simp only[y,bF,bN]at j;obtain⟨rfl,rfl⟩:=j;split at h
     .rename_i L vv fr H;split at h
      .rename_i N;simp only[cE,bF]at h;obtain⟨r,C,rfl,rfl⟩:=h;exact⟨rfl,λd l=>by rw[l id (.inl (by simp)),H];simp[N,C]⟩
      .cases h
     .cases h
    .cases h
   .cases h
  |lookup t x ix ok=>
   simp only[dV,f]at j;simp only[aO,f]at h ⊢;have D:∀d:Id->Option Ob,(∀id,id∈R\/id∈W->d id=aC id)->sG d (ev sl x)=sG aC (ev sl x):=by
    intro d l;unfold sG;split
    .rename_i id y;simp only[y,bF,bN]at j;obtain⟨rfl,rfl⟩:=j;rw[l id (.inl (by simp))]
    .rfl
    .rfl
   split at h
   .split at h
    .split at h
     .split at h
      .cases h;exact⟨rfl,λd l=>by rw[D d l];simp_all⟩
      .cases h
     .cases h
    .cases h
   .cases h
  |slice t x lo J mx=>
   simp only[dV,f]at j;cases mx with
   |some m=>
    cases J with
    |none=>simp[aO,f]at h
    |some J=>
    simp only[aO,f]at h ⊢;split at h
    .split at h
     .simp only[cE,bF]at h;obtain⟨r,C,rfl,rfl⟩:=h;exact⟨rfl,λd _=>by simp_all⟩
     .cases h
    .split at h
     .split at h
      .split at h
       .split at h
        .simp only[bN,bF]at h;obtain⟨rfl,rfl⟩:=h;exact⟨rfl,λd _=>by simp_all⟩
        .cases h
       .split at h
        .simp only[bN,bF]at h;obtain⟨rfl,rfl⟩:=h;exact⟨rfl,λd _=>by simp_all⟩
        .cases h
       .cases h
      .cases h
     .cases h
   |none=>
    simp only[aO,f]at h ⊢;split at h
    .split at h
     .simp only[cE,bF]at h;obtain⟨r,C,rfl,rfl⟩:=h;exact⟨rfl,λd _=>by simp_all⟩
     .cases h
    .split at h
     .split at h
      .split at h
       .split at h
        .split at h
         .simp only[bN,bF]at h;obtain⟨rfl,rfl⟩:=h;exact⟨rfl,λd _=>by simp_all⟩
         .cases h
        .cases h
       .split at h
        .split at h
         .simp only[bN,bF]at h;obtain⟨rfl,rfl⟩:=h;exact⟨rfl,λd _=>by simp_all⟩
         .cases h
        .cases h
       .cases h
      .cases h
     .split at h
      .split at h
       .rename_i id E F y;simp only[y,bF,bN]at j;obtain⟨rfl,rfl⟩:=j;split at h
        .split at h
         .simp only[bN,bF]at h;obtain⟨rfl,rfl⟩:=h;refine⟨rfl,λd l=>?_⟩;simp_all<;>omega
         .cases h
        .cases h
       .cases h
      .cases h
     .cases h
  |call c=>
   simp only[f]at n;cases i:c.callee with
   |builtin b=>
    have one:∀{g:Option Value} {r:AV×(Id->Option Ob)},(g.map λv=>(fJ v,aC))=some r->r.2=aC/\∀d:Id->Option Ob,(g.map λv=>(fJ v,d))=some (r.1,d):=by
     intro g r p;cases g with
     |none=>simp at p
     |some x=>simp at p;subst p;exact⟨rfl,λ_=>rfl⟩
    have e:∀{g:Option AV},(g.map λv=>(v,aC))=some (v,objs')->objs'=aC/\∀d:Id->Option Ob,(g.map λv=>(v,d))=some (v,d):=by
     intro g p;cases g with
     |none=>simp at p
     |some x=>simp at p;obtain⟨rfl,rfl⟩:=p;exact⟨rfl,λ_=>rfl⟩
    have w:∀{k:List Value->Option Value},(match iL (c.args.toList.map (ev sl))with|some A=>(k A).map (λv=>(fJ v,aC))|none=>none)=some (v,objs') ->
     objs'=aC/\∀d:Id->Option Ob,(match iL (c.args.toList.map (ev sl))with|some A=>(k A).map (λv=>(fJ v,d))|none=>none)=some (v,d):=by
     intro k n;split at n
     .obtain⟨Q,X⟩:=one n;exact⟨Q,λd=>X d⟩
     .cases n
    cases b with
    |max=>simp only[aO,f,i,gK]at h ⊢;exact⟨(e h).1,λd _=>(e h).2 d⟩
    |min=>simp only[aO,f,i,gK]at h ⊢;exact⟨(e h).1,λd _=>(e h).2 d⟩
    |cap=>simp only[aO,f,i,gK]at h ⊢;exact⟨(e h).1,λd _=>(e h).2 d⟩
    |real=>simp only[aO,f,i,gK]at h ⊢;exact⟨(e h).1,λd _=>(e h).2 d⟩
    |imag=>simp only[aO,f,i,gK]at h ⊢;exact⟨(e h).1,λd _=>(e h).2 d⟩
    |complex=>simp only[aO,f,i,gK]at h ⊢;exact⟨(e h).1,λd _=>(e h).2 d⟩
    |len=>
     simp only[aO,f,i,gK]at h ⊢;split at h
     .split at h
      .split at h
       .simp only[bN,bF]at h;obtain⟨rfl,rfl⟩:=h;exact⟨rfl,λd _=>by simp_all⟩
       .cases h
      .cases h
     .split at h
      .split at h
       .simp only[bN,bF]at h;obtain⟨rfl,rfl⟩:=h;exact⟨rfl,λd _=>by simp_all⟩
       .cases h
      .cases h
     .split at h
      .split at h
       .rename_i O;exact absurd (show mapLen P o sl=true by simp only[mapLen,f,i,O]) (by rw[D];simp)
       .cases h
      .cases h
     .obtain⟨Y,Z⟩:=w (k:=λA=>bT P (Builtin.len_ c.argTypes o.type A.toArray)) h;exact⟨Y,λd _=>Z d⟩
    |_=>simp[i]at n
   |_=>simp[i]at n
  |_=>simp[f]at n
 refine .mk' h (λ_ _=>by rw[u.1]) λd l=>?_
 rw[u.1,v7 l];exact u.2 d l
def xfv{a:Id->Option Ob}{z:Nat}{x:AV}(h:∀id b d n e f,x=.sref id b d n e f->a id=aC id):elems a z x=elems aC z x:=by
 unfold elems;split
 .rfl
 .rfl
 .rename_i id b d n e f;rw[h id b d n e f rfl]
 .rfl
def WS{v:AV}{R W:List Id}(h:aO P id0 o sl aC=some (v,objs'))(X:dV id0 o sl=(some R,some W))(hk:(match o.op with | .store ..=>true | .call c=>(match c.callee with | .builtin .append | .builtin .copy=>true|_=>false)|_=>false)=true):Foot P id0 o sl aC objs' v R W:=by
 cases J:o.op with
 |store t a x=>
  simp only[dV,J]at X;have h0:=h;simp only[aO,J]at h;split at h
  .split at h
   .rename_i id p l he;simp only[he,bF,bN]at X;obtain⟨rfl,rfl⟩:=X;split at h
    .split at h
     .cases h;refine .mk' h0 (λ_ E=>qC E) λg u=>?_
      have w:=u id (.inr (by simp));rw[qD];simp only[aO,J];simp_all
     .cases h
    .cases h
   .cases h
  .cases h
 |call c=>
  simp only[J]at hk;cases L:c.callee with
  |builtin b=>
   cases b with
   |append=>
    obtain⟨y,x,M⟩:∃y x,c.args.toList=[y,x]:=by
     simp only[aO,J,L,gK,wH]at h;split at h
     .rename_i e1 N;match M:c.args.toList,N with
      |[y,x],_=>exact⟨y,x,rfl⟩
     .cases h
    simp only[dV,J,L,M,bF]at X;obtain⟨Y,F⟩:=X;have he:∀g:Id->Option Ob,(∀id,id∈R\/id∈W->g id=aC id)->∀z,elems g z (ev sl x)=elems aC z (ev sl x):=by
     intro g u z;refine xfv λid p l n z' f hx=>u id (.inl ?_)
     rw[hx]at Y;simp at Y;simp[<-Y]
    have h0:=h;simp only[aO,J,L,gK,wH,M,fY,lB]at h;split at h
    .rename_i t t' s' x' e1 N;simp only[xih,and_true]at N;obtain⟨rfl,rfl⟩:=N;split at h
     .rename_i C d hu hud;split at h
      .rename_i i zc E hz;split at h
       .rename_i H;have go:∀{r:Option (List AV×Nat)} {s:AV},(match s with | .sref id _ _ _ _ true=>some [id] | .sref id _ _ _ _ false=>some [id,id0] | .aN .. | .sc _=>some [id0]|_=>none)=some W ->
         (match r with
          |some (r,m)=>match s with
           | .sc (.slice none 0 0)=>if m=0 then some (s,aC)else if cH m i.bytes then some (AV.sref id0 0 0 m i.size true,bH aC id0 (some (.row r 0 false)))else none
           | .aN A n true=>if n*i.size<=A.length then(if m=0 then some (s,aC)else if cH (n+m) i.bytes then some (.sref id0 0 0 (n+m) i.size true,bH aC id0 (some (.row (A.take (n*i.size)++r) 0 false)))else none)else none
           | .sref id p l n z true=>match aC id with
             |some (.row A v false)=>if v=p/\z=i.size/\l+n*z<=A.length/\cH (n+m) i.bytes then
              if m=0 then some (s,aC)
              else if l+(n+m)*z<=A.length then some (.sref id p l (n+m) z true,bH aC id (some (.row (cS A (l+n*z) r) v false)))
              else some (.sref id (p+1) 0 (n+m) z true,bH aC id (some (.row ((A.drop l).take (n*z)++r) (v+1) false)))
              else none
             |_=>none
           | .sref id p l n z false=>match aC id with
             |some (.row A v _)=>if v=p/\z=i.size/\l+n*z<=A.length/\cH (n+m) i.bytes then
              if m=0 then some (s,aC)
              else some (.sref id0 0 0 (n+m) i.size true,bH aC id0 (some (.row ((A.drop l).take (n*z)++r) 0 false)))
              else none
             |_=>none
           |_=>none
          |none=>none)=some (v,objs') ->
         (∀id,id∉W->objs' id=aC id)/\∀g:Id->Option Ob,(∀id,id∈R\/id∈W->g id=aC id) ->
         (match r with
          |some (r,m)=>match s with
           | .sc (.slice none 0 0)=>if m=0 then some (s,g)else if cH m i.bytes then some (AV.sref id0 0 0 m i.size true,bH g id0 (some (.row r 0 false)))else none
           | .aN A n true=>if n*i.size<=A.length then(if m=0 then some (s,g)else if cH (n+m) i.bytes then some (.sref id0 0 0 (n+m) i.size true,bH g id0 (some (.row (A.take (n*i.size)++r) 0 false)))else none)else none
           | .sref id p l n z true=>match g id with
             |some (.row A v false)=>if v=p/\z=i.size/\l+n*z<=A.length/\cH (n+m) i.bytes then
              if m=0 then some (s,g)
              else if l+(n+m)*z<=A.length then some (.sref id p l (n+m) z true,bH g id (some (.row (cS A (l+n*z) r) v false)))
              else some (.sref id (p+1) 0 (n+m) z true,bH g id (some (.row ((A.drop l).take (n*z)++r) (v+1) false)))
              else none
             |_=>none
           | .sref id p l n z false=>match g id with
             |some (.row A v _)=>if v=p/\z=i.size/\l+n*z<=A.length/\cH (n+m) i.bytes then
              if m=0 then some (s,g)
              else some (.sref id0 0 0 (n+m) i.size true,bH g id0 (some (.row ((A.drop l).take (n*z)++r) 0 false)))
              else none
             |_=>none
           |_=>none
          |none=>none)=some (v,λid=>if id∈W then objs' id else g id):=by
         intro r s F h;split at h
         .split at h
          .simp only[bN]at F;subst F;split at h
           .cases h;exact⟨λ_ _=>rfl,λg u=>by rw[v7 u];simp_all⟩
           .split at h
            .cases h;exact⟨λ_ E=>qC E,λg u=>by rw[qD];simp_all⟩
            .cases h
          .simp only[bN]at F;subst F;split at h
           .split at h
            .cases h;exact⟨λ_ _=>rfl,λg u=>by rw[v7 u];simp_all⟩
            .split at h
             .cases h;exact⟨λ_ E=>qC E,λg u=>by rw[qD];simp_all⟩
             .cases h
           .cases h
          .simp only[bN]at F;subst F;rename_i id p l n z;split at h
           .rename_i A vv D;split at h
            .rename_i K;split at h
             .rename_i O;cases h;exact⟨λ_ _=>rfl,λg u=>by rw[v7 u];have w:=u id (.inr (by simp));simp only[w,D];rw[aF K,aF O]⟩
             .rename_i O;split at h
              .rename_i hr;cases h;exact⟨λ_ E=>qC E,λg u=>by rw[qD];have w:=u id (.inr (by simp));simp only[w,D];rw[aF K,aB O,aF hr]⟩
              .rename_i hr;cases h;exact⟨λ_ E=>qC E,λg u=>by rw[qD];have w:=u id (.inr (by simp));simp only[w,D];rw[aF K,aB O,aB hr]⟩
            .cases h
           .cases h
          .simp only[bN]at F;subst F;rename_i id p l n z;split at h
           .rename_i A vv fr D;split at h
            .rename_i K;split at h
             .rename_i O;cases h;exact⟨λ_ _=>rfl,λg u=>by rw[v7 u];have w:=u id (.inr (by simp));simp only[w,D];rw[aF K,aF O]⟩
             .rename_i O;cases h;refine⟨λj E=>?_,λg u=>?_⟩
              .unfold bH;rw[aB (λe=>E (by simp[e]))]
              .have w:=u id (.inr (by simp));simp only[w,D];rw[aF K,aB O];congr 2;funext j;unfold bH;by_cases hj:j=id0
               .subst hj;simp
               .by_cases hj2:j=id
                .subst hj2;simp[hj,w,D]
                .simp[hj,hj2]
            .cases h
           .cases h
          .cases h
         .cases h
        obtain⟨g1,g2⟩:=go F h;refine .mk' h0 g1 λg u=>?_
        have:=g2 g u;simp only[aO,J,L,gK,wH,M,fY,lB,e1,hu,hud,E,hz,he g u];rw[aF H];exact this
       .cases h
      .cases h
     .cases h
    .cases h
   |copy=>
    obtain⟨y,x,M⟩:∃y x,c.args.toList=[y,x]:=by
     simp only[aO,J,L,gK,yQ]at h;split at h
     .rename_i e1 N;match M:c.args.toList,N with
      |[y,x],_=>exact⟨y,x,rfl⟩
     .cases h
    simp only[dV,J,L,M,bF]at X;obtain⟨Y,F⟩:=X;have he:∀g:Id->Option Ob,(∀id,id∈R\/id∈W->g id=aC id)->∀z,elems g z (ev sl x)=elems aC z (ev sl x):=by
     intro g u z;refine xfv λid p l n z' f hx=>u id (.inl ?_)
     rw[hx]at Y;simp at Y;simp[<-Y]
    have h0:=h;simp only[aO,J,L,gK,yQ,M,fY,lB]at h;split at h
    .rename_i t ts s' x' e1 N;simp only[xih,and_true]at N;obtain⟨rfl,rfl⟩:=N;split at h
     .rename_i C hu;split at h
      .rename_i i E;split at h
       .rename_i r m Q;split at h
        .rename_i id p l n z f Z;rw[Z]at F;simp only[bN]at F;subst F;split at h
         .rename_i A vv D;split at h
          .rename_i H;cases h;refine .mk' h0 (λ_ E=>qC E) λg u=>?_
           have w:=u id (.inr (by simp));rw[qD];simp only[aO,J,L,gK,yQ,M,fY,lB,e1,hu,E,he g u,Q,Z,w,D];rw[aF H]
          .cases h
         .cases h
        .rename_i Z;rw[Z]at F;simp only[bN]at F;subst F;cases h;refine .mk' h0 (λ_ _=>rfl) λg u=>?_
         rw[v7 u];simp only[aO,J,L,gK,yQ,M,fY,lB,e1,hu,E,he g u,Q,Z]
        .cases h
       .cases h
      .cases h
     .cases h
    .cases h
   |_=>simp[L]at hk
  |_=>simp[L]at hk
 |_=>simp[J]at hk
def xd9{v:AV}{R W:List Id}(h:aO P id0 o sl aC=some (v,objs'))(d:dV id0 o sl=(some R,some W))(e:mapLen P o sl=false):Foot P id0 o sl aC objs' v R W:=by
 cases a:o.op with
 |alloc _=>have:=d;simp only[dV,a,bF,bN]at this;obtain⟨rfl,rfl⟩:=this;exact ET h (by rw[a])
 |box _ _=>have:=d;simp only[dV,a,bF,bN]at this;obtain⟨rfl,rfl⟩:=this;exact ET h (by rw[a])
 |makeSlice _ _ _=>have:=d;simp only[dV,a,bF,bN]at this;obtain⟨rfl,rfl⟩:=this;exact ET h (by rw[a])
 |makeMap _ _=>have:=d;simp only[dV,a,bF,bN]at this;obtain⟨rfl,rfl⟩:=this;exact ET h (by rw[a])
 |buildSlice _ _ _=>have:=d;simp only[dV,a,bF,bN]at this;obtain⟨rfl,rfl⟩:=this;exact ET h (by rw[a])
 |load _ _=>exact uA h d e (by rw[a])
 |lookup _ _ _ _=>exact uA h d e (by rw[a])
 |slice _ _ _ _ _=>exact uA h d e (by rw[a])
 |store _ _ _=>exact WS h d (by rw[a])
 |call c=>
  cases f:c.callee with
  |builtin b=>
   cases b with
   |append=>exact WS h d (by rw[a];simp only[f])
   |copy=>exact WS h d (by rw[a];simp only[f])
   |len=>exact uA h d e (by rw[a];simp only[f])
   |cap=>exact uA h d e (by rw[a];simp only[f])
   |real=>exact uA h d e (by rw[a];simp only[f])
   |imag=>exact uA h d e (by rw[a];simp only[f])
   |complex=>exact uA h d e (by rw[a];simp only[f])
   |min=>exact uA h d e (by rw[a];simp only[f])
   |max=>exact uA h d e (by rw[a];simp only[f])
   |_=>simp[dV,a,f]at d
  |_=>simp[dV,a,f]at d
 |_=>first|exact x8a (by rw[a];rfl) e h|(simp[dV,a]at d;done)
end
section
variable{P:Program}{pol:Pol}{call:Hs->FuncId->List AV->St->Option (AV×St)}{c:Ctx}{ops:Array Oper}
noncomputable def eH(P:Program)(pol:Pol)(b:Hs->FuncId->List AV->St->Option (AV×St))(c:Ctx)(g:Array Oper)(i Y:Nat)(o:Oper)(d:Nat->AV)(st:St):Option (AV×St):=
 if mZ g o d then
  match o.op with
  | .call {callee:=.value h,args,.. }=>kW b c.u Y c.hs (nm (pol c.f (o.dst.getD 0))) (ev d h) (args.toList.map (ev d)) st
  | .call {callee:=.invoke rv e,args,.. }=>(pG P (ev d rv) e).bind λp=>gJ b c.hs (nm (pol c.f (o.dst.getD 0))) (.clo p.1 []) (p.2::args.toList.map (ev d)) st
  |_=>(aO P (c.u,Y+i,o.dst.getD 0) o d st.aC).map λp=>(p.1,{st with aC:=p.2})
 else some (.sc undef,st)
def EK{i:Nat}{o:Oper}{s:S}(n:ops[i]?=some o):jH P pol call c ops i s=(eH P pol call c ops i s.fc o s.sl s.st).bind λp=>put c o.dst p.1 {s with st:=p.2}:=by
 unfold jH eH;simp only[n];split
 .split
  .rename_i g a d b;simp only[b];cases kW call c.u s.fc c.hs (nm (pol c.f (o.dst.getD 0))) (ev s.sl g) (a.toList.map (ev s.sl)) s.st<;>rfl
  .rename_i rv e a d b;simp only[b];cases r:pG P (ev s.sl rv) e with
   |none=>rfl
   |some p=>simp only[V5];cases gJ call c.hs (nm (pol c.f (o.dst.getD 0))) (.clo p.1 []) (p.2::a.toList.map (ev s.sl)) s.st<;>rfl
  .rename_i m h;split
   .rename_i v j l;split
    .rename_i g a d b;exact absurd b (m g a d)
    .rename_i rv e a d b;exact absurd b (h rv e a d)
    .simp[l]
   .rename_i l;split
    .rename_i g a d b;exact absurd b (m g a d)
    .rename_i rv e a d b;exact absurd b (h rv e a d)
    .simp[l]
 .rfl
def zO(a:Array Oper)(o:Oper)(d b:Nat->AV):Prop:=∀t∈o.looksAt a,b t=d t
def V2{o:Oper}{b a:Nat->AV}(h:zO ops o b a):∀x∈o.op.operands.toList,ev a x=ev b x:=by
 intro x d;cases x with
 |tmp t=>exact h t (by simp only[Oper.looksAt,iF,List.mem_filterMap];exact .inl ⟨_,d,rfl⟩)
 |_=>rfl
def x8x{o:Oper}{b a:Nat->AV}(h:zO ops o b a):mZ ops o a=mZ ops o b:=by
 unfold mZ;cases e:o.guard with
 |none=>rfl
 |some g=>
  obtain⟨j,d⟩:=g;simp only
  cases f:(ops[j]?).bind (·.dst)with
  |none=>rfl
  |some t=>
   simp only
   rw[h t (by simp[Oper.looksAt,e,f])]
def xfn{i Y:Nat}{o:Oper}{j d:Nat->AV}{st:St}(h:zO ops o j d):eH P pol call c ops i Y o d st=eH P pol call c ops i Y o j st:=by
 unfold eH;rw[x8x h];split
 .split
  .rename_i m e g a;have b:=V2 h;simp only[a,Op.operands,Call.operands]at b;rw[b m (by simp),EG (λx f=>b x (by simp;right;simpa using f))]
  .rename_i rv l e g a;have b:=V2 h;simp only[a,Op.operands,Call.operands]at b;rw[b rv (by simp),EG (λx f=>b x (by simp;right;simpa using f))]
  .rw[xzu (V2 h)]
 .rfl
def N'{d:Id}{o:Oper}{f a:Nat->AV}(h:zO ops o f a):dV d o a=dV d o f:=by
 have e:=V2 h;unfold dV;cases j:o.op with
 |call i=>
  simp only[j,Op.operands,Call.operands]at e;cases l:i.callee with
  |builtin b=>
   have g:∀x∈i.args.toList,ev a x=ev f x:=λx m=>e x (by simp;right;simpa using m)
   simp only[l];match n:i.args.toList with
   |[]=>rfl
   |[x]=>rfl
   |[x,y]=>rw[n]at g;simp only[g x (by simp),g y (by simp)]
   |_::_::_::_=>rfl
  |_=>simp only[l]
 |_=>simp only[j,Op.operands]at e;simp at e;simp only[e]
def xda{m:Nat}{o:Oper}{d a:Nat->AV}(h:zO ops o d a):gV m o a=gV m o d:=by
 have b:=V2 h;unfold gV;cases g:o.op with
 |call i=>
  simp only[g,Op.operands,Call.operands]at b;cases e:i.callee with
  |value j=>simp only[e]at b ⊢;rw[b j (by simp),EG (λx f=>b x (by simp;right;simpa using f))]
  |_=>simp only[e]
 |_=>simp only
def E8{i Y:Nat}{o:Oper}{j:Nat->AV}{st d:St}{v:AV}{R W:List Id}(y:fV o=false)(h:eH P pol call c ops i Y o j st=some (v,d))(A:dV (c.u,Y+i,o.dst.getD 0) o j=(some R,some W))(t:mapLen P o j=false) :
    d.next=st.next/\(∀id,id∉W->d.aC id=st.aC id)/\∀a:St,(∀id,id∈R\/id∈W->a.aC id=st.aC id)->∃b,eH P pol call c ops i Y o j a=some (v,b)/\b.next=a.next/\(∀id∈W,b.aC id=d.aC id)/\∀id,id∉W->b.aC id=a.aC id:=by
 unfold eH at h ⊢;split at h
 .rename_i n;split at h
  .rename_i L g r f;simp[fV,f]at y
  .rename_i rv w g r f;simp[mapLen,f]at t
  .rename_i C x;simp only[cE,bF]at h;obtain⟨p,D,rfl,rfl⟩:=h;obtain⟨E,F⟩:=xd9 (v:=p.1) (objs':=p.2) D A t;refine⟨rfl,E,λa l=>?_⟩;obtain⟨e,H,J,K⟩:=F a.aC l;refine⟨{a with aC:=e},?_,rfl,J,K⟩;rw[aF n,H];rfl
 .rename_i n;cases h;exact⟨rfl,λ_ _=>rfl,λa l=>⟨a,by rw[aB n],rfl,λid m=>l id (.inr m),λ_ _=>rfl⟩⟩
def St.ext'{a b:St}(h:∀id,a.aC id=b.aC id)(d:a.next=b.next):a=b:=by cases a;cases b;simp at d;subst d;congr;funext i;exact h i
end
def C7{α β:Type}{f g:α->Option β}:∀{l:List α},(∀a∈l,f a=g a)->l.mapM f=l.mapM g
 |[],_=>rfl
 |a::l,h=>by rw[eI,eI,h a (by simp),C7 λb d=>h b (eE _ d)]
section
variable{aC objs2:Id->Option Ob}
def x1c{k:Nat}{a:AV}(h:(match a with | .sc _ | .aN ..=>true|_=>false)=true):frz aC (k+1) a=frz objs2 (k+1) a/\reach aC (k+1) a=[]:=by cases a<;>simp at h<;>exact⟨by simp[frz],by simp[reach]⟩
def xgd{k:Nat}{a:AV}(h:eM a=true):frz aC (k+2) a=frz objs2 (k+2) a/\reach aC (k+2) a=[]:=by
 cases a with
 |sc _=>exact⟨by simp[frz],by simp[reach]⟩
 |aN _ _ _=>exact⟨by simp[frz],by simp[reach]⟩
 |aE _=>exact⟨by simp[frz],by simp[reach]⟩
 |un _=>exact⟨by simp[frz],by simp[reach]⟩
 |clo f d=>
  simp only[eM]at h;have e:=λx b=>x1c (aC:=aC) (objs2:=objs2) (k:=k) (dJ.1 h x b)
  refine⟨?_,?_⟩
  .show(d.mapM (frz aC (k+1))).map (AV.clo f)=(d.mapM (frz objs2 (k+1))).map (AV.clo f);rw[C7 λx b=>(e x b).1]
  .show d.flatMap (reach aC (k+1))=[];rw[W0];exact λx b=>(e x b).2
 |_=>simp[eM]at h
def xgb{k:Nat}{a:AV}(h:clean a=true):frz aC (k+3) a=frz objs2 (k+3) a/\reach aC (k+3) a=[]:=by
 cases a with
 |agg d=>
  simp only[clean]at h;have e:=λx b=>xgd (aC:=aC) (objs2:=objs2) (k:=k) (dJ.1 h x b)
  refine⟨?_,?_⟩
  .show(d.mapM (frz aC (k+2))).map AV.agg=(d.mapM (frz objs2 (k+2))).map AV.agg;rw[C7 λx b=>(e x b).1]
  .show d.flatMap (reach aC (k+2))=[];rw[W0];exact λx b=>(e x b).2
 |sc _=>exact⟨by simp[frz],by simp[reach]⟩
 |aN _ _ _=>exact⟨by simp[frz],by simp[reach]⟩
 |aE _=>exact⟨by simp[frz],by simp[reach]⟩
 |un _=>exact⟨by simp[frz],by simp[reach]⟩
 |clo f d=>exact xgd (k:=k+1) h
 |_=>simp[clean,eM]at h
def xgc{l:List AV}(h:l.all clean=true):l.mapM (frz aC bI)=l.mapM (frz objs2 bI)/\l.flatMap (reach aC bI)=[]:=
 ⟨C7 λx a=>(xgb (k:=3) (dJ.1 h x a)).1,by
  simp only[W0]
  exact λx a=>(xgb (aC:=aC) (objs2:=aC) (k:=3) (dJ.1 h x a)).2⟩
end
section
variable{P:Program}{pol:Pol}{call:Hs->FuncId->List AV->St->Option (AV×St)}{c:Ctx}{ops:Array Oper}
def xfm{i Y:Nat}{o:Oper}{w:Nat->AV}{st r:St}{v:AV}(d:gV (nm (pol c.f (o.dst.getD 0))) o w≠0)(h:eH P pol call c ops i Y o w st=some (v,r)) :
    (∀id:Id,id.1<st.next->r.aC id=st.aC id)/\(gV (nm (pol c.f (o.dst.getD 0))) o w=2->∀b:St,b.next=st.next->∃m,eH P pol call c ops i Y o w b=some (v,m)/\m.next=r.next /\
     (∀id:Id,id.1<st.next->m.aC id=b.aC id)/\∀id:Id,st.next<=id.1->b.aC id=st.aC id->m.aC id=r.aC id):=by
 cases C:o.op with
 |call M=>
  cases D:M.callee with
  |value fv=>
   cases K:ev w fv with
   |clo g E=>
    simp only[gV,C,D,K]at d ⊢;unfold eH at h ⊢;split at h
    .rename_i F;obtain⟨H,A,ats⟩:=M;simp only at D;subst D;have Z:nm (pol c.f (o.dst.getD 0))≠9:=λe=>by simp[e]at d
     simp only[C,K,kW,aB Z,gJ]at h ⊢;split at h
     .rename_i a;simp only[a]at d ⊢;simp only[show ¬((0:Nat)=3\/(0:Nat)=4) by omega,cT]at d ⊢;split at d
      .rename_i n;rw[aF n];have p:=n.2;have y:∀st:St,({st with aC:=shut ((A.toList.map (ev w)++E).flatMap (reach st.aC bI)) st.aC}:St)=st:=(by intro st;rw[(xgc (aC:=st.aC) (objs2:=st.aC) p).2];exact St.ext' (λid=>by simp[shut]) rfl);split at h
       .rename_i l N;split at h
        .rename_i r0 u j;simp only[cE,bF]at h;obtain⟨r',J,rfl,rfl⟩:=h;rw[y];refine⟨λ_ _=>rfl,λ_ b x=>⟨b,?_,x,λ_ _=>rfl,λ_ _ e=>e⟩⟩;rw[aF F,(xgc (aC:=b.aC) (objs2:=st.aC) p).1,N];simp only[j,J,Option.map_some];rw[y]
        .cases h
       .cases h
      .exact absurd rfl d
     .rename_i a;simp only[a]at d ⊢;split at h
      .split at h
       .split at h
        .cases h;exact⟨λ_ _=>rfl,λe=>by simp at e⟩
        .cases h
       .cases h
      .cases h
     .rename_i a;simp only[a]at d ⊢;split at h
      .split at h
       .split at h
        .rename_i L;cases h;refine⟨λid t=>?_,λe=>by simp at e⟩;simp only
         split
         .rename_i O;simp only[cI]at L;have:=dJ.1 L.2 id O;simp only[cI,mR]at this;omega
         .rfl
        .cases h
       .cases h
      .cases h
     .rename_i a;simp only[a]at d ⊢;simp only[show ¬((1:Nat)=3\/(1:Nat)=4) by omega,cT]at d ⊢;split at d
      .rename_i n;rw[aF n];have p:=n.2;rw[aF p]at h;split at h
       .rename_i r0 u j;cases h;refine⟨λid t=>?_,λ_ b x=>⟨{aC:=λi=>if st.next<=i.1 then u.aC i else b.aC i,next:=u.next},?_,rfl,λid t=>?_,λid t _=>?_⟩⟩
        .simp only;rw[aB (by omega)]
        .rw[aF F,aF p,x,j]
        .simp only;rw[aB (by omega)]
        .simp only;rw[aF (by omega),aF (by omega)]
       .cases h
      .exact absurd rfl d
     .rename_i Q R W X;exfalso;split at d
      .rename_i e;rcases e with e|e
       .exact R e
       .exact W e
      .split at d
       .rename_i e;have:=e.1;rcases kS (nm (pol c.f (o.dst.getD 0))) 1 with h'|h'
        .exact Q (by omega)
        .exact X (by omega)
       .exact absurd rfl d
    .rename_i F;cases h;exact⟨λ_ _=>rfl,λ_ b x=>⟨b,by rw[aB F],x,λ_ _=>rfl,λ_ _ e=>e⟩⟩
   |_=>simp[gV,C,D,K]at d
  |_=>simp[gV,C,D]at d
 |_=>simp[gV,C]at d
end
def EX{a b:List Id}(h:kX a b=true):∀i∈a,i∉b:=λi d e=>by have:=dJ.1 h i d;simp at this;exact this e
section
variable{P:Program}{pol:Pol}{call:Hs->FuncId->List AV->St->Option (AV×St)}{c:Ctx}{ops:Array Oper}
def xm5{i j Y:Nat}{x y:Oper}{f:Nat->AV}{st st1 d:St}{v u:AV}(p:mapLen P x f=false)(r:mapLen P y f=false)(t:fV x=false)(w:fV y=false)(J:eH P pol call c ops i Y x f st=some (v,st1))(K:eH P pol call c ops j Y y f st1=some (u,d))(A:aW (dV (c.u,Y+i,x.dst.getD 0) x f) (dV (c.u,Y+j,y.dst.getD 0) y f)=true) :
    ∃a,eH P pol call c ops j Y y f st=some (u,a)/\eH P pol call c ops i Y x f a=some (v,d):=by
 have l:dV (c.u,Y+i,x.dst.getD 0) x f=(some [],some [])->∃a,eH P pol call c ops j Y y f st=some (u,a)/\eH P pol call c ops i Y x f a=some (v,d):=(by intro L;obtain⟨C,n,D⟩:=E8 t J L p;have:st1=st:=St.ext' (λid=>n id (by simp)) C;subst this;obtain⟨g,E,o,_,M⟩:=D d (by simp);have:g=d:=St.ext' (λid=>M id (by simp)) o;subst this;exact⟨g,K,E⟩);have m:dV (c.u,Y+j,y.dst.getD 0) y f=(some [],some [])->∃a,eH P pol call c ops j Y y f st=some (u,a)/\eH P pol call c ops i Y x f a=some (v,d):=(by intro L;obtain⟨C,n,D⟩:=E8 w K L r;have:d=st1:=St.ext' (λid=>n id (by simp)) C;subst this;obtain⟨F,E,o,_,M⟩:=D st (by simp);have:F=st:=St.ext' (λid=>M id (by simp)) o;subst this;exact⟨F,E,J⟩);unfold aW at A;split at A
 .rename_i e;exact l e
 .rename_i e _;exact m e
 .rename_i R1 R R2 W _ _ X Z;simp only[cI]at A;obtain⟨⟨d1,d2⟩,N⟩:=A;obtain⟨C,n,D⟩:=E8 t J X p;obtain⟨E,o,g3⟩:=E8 w K Z r
  obtain⟨a,k1,k2,k3,Q⟩:=g3 st (λid b=>(n id (by
   rcases b with b|b
   .exact EX d2 id b
   .exact λh=>EX N id h b)).symm)
  obtain⟨g,q1,q2,q3,q4⟩:=D a (λid b=>Q id (by
   rcases b with b|b
   .exact EX d1 id b
   .exact EX N id b))
  have:g=d:=St.ext' (λid=>by
   by_cases H:id∈R
   .rw[q3 id H,o id (EX N id H)]
   .rw[q4 id H]
    by_cases O:id∈W
    .rw[k3 id O]
    .rw[Q id O,o id O,n id H]) (by rw[q2,k2,E,C])
  subst this;exact⟨a,k1,q1⟩
 .cases A
def xm8{i j Y d:Nat}{x y:Oper}{m:Nat->AV}{st st1 e:St}{v u:AV}(r:mapLen P y m=false)(D:eH P pol call c ops i Y x m st=some (v,st1))(L:eH P pol call c ops j Y y m st1=some (u,e))(hn:d<=st.next)(g:sY (nm (pol c.f (x.dst.getD 0))) (some d) (c.u,Y+j,y.dst.getD 0) x y m=true) :
    ∃a,eH P pol call c ops j Y y m st=some (u,a)/\eH P pol call c ops i Y x m a=some (v,e):=by
 unfold sY at g;simp only[cI,pq]at g;obtain⟨w,g⟩:=g;split at g
 .rename_i R W M;simp only[cI,lD,beq_iff_eq]at g;obtain⟨o,E⟩:=g;have n:∀id:Id,id∈R\/id∈W->id.1<st.next:=λid b=>by have:=dJ.1 o id (iF.2 b);simp at this;omega
  have t:gV (nm (pol c.f (x.dst.getD 0))) x m≠0:=(by rcases E with h|⟨h,_⟩<;>rw[h]<;>simp);obtain⟨F,Q⟩:=xfm t D;obtain⟨H,A,X⟩:=E8 w L M r;obtain⟨a,J,K,Z,C⟩:=X st (λid b=>(F id (n id b)).symm);rcases E with h2|⟨_,l⟩
  .obtain⟨p,q1,q2,q3,q4⟩:=Q h2 a K
   have:p=e:=St.ext' (λid=>by
    by_cases b:id.1<st.next
    .rw[q3 id b]
     by_cases l:id∈W
     .exact Z id l
     .rw[C id l,A id l,F id b]
    .have l:id∉W:=λh=>b (n id (.inr h))
     rw[q4 id (by omega) (C id l),A id l]) (by rw[q2,H])
   subst this;exact⟨a,J,q1⟩
  .have:W=[]:=(by simpa using l);subst this;have N:a=st:=St.ext' (λid=>C id (by simp)) K;have O:e=st1:=St.ext' (λid=>A id (by simp)) H;subst N O;exact⟨a,J,D⟩
 .cases g
def xm6{i j Y:Nat}{x y:Oper}{g:Nat->AV}{st st1 e:St}{v u:AV}(p:mapLen P x g=false)(N:eH P pol call c ops i Y x g st=some (v,st1))(F:eH P pol call c ops j Y y g st1=some (u,e))(O:∀R W:List Id,dV (c.u,Y+i,x.dst.getD 0) x g=(some R,some W)->∀id:Id,id∈R\/id∈W->id.1<st.next)(l:sY (nm (pol c.f (y.dst.getD 0))) none (c.u,Y+i,x.dst.getD 0) y x g=true) :
    ∃a,eH P pol call c ops j Y y g st=some (u,a)/\eH P pol call c ops i Y x g a=some (v,e):=by
 unfold sY at l;simp only[cI,pq]at l;obtain⟨t,l⟩:=l;split at l
 .rename_i R W H;simp only[iG,cI,lD,beq_iff_eq]at l;have J:=l;have m:=O R W H;have r:gV (nm (pol c.f (y.dst.getD 0))) y g≠0:=(by rcases J with h|⟨h,_⟩<;>rw[h]<;>simp);obtain⟨w,X⟩:=xfm r F;obtain⟨o,A,K⟩:=E8 t N H p;rcases J with h2|⟨_,n⟩
  .obtain⟨a,Z,q2,L,q4⟩:=X h2 st o.symm;obtain⟨b,C,D,M,E⟩:=K a (λid d=>L id (by rw[o];exact m id d))
   have:b=e:=St.ext' (λid=>by
    by_cases n:id∈W
    .rw[M id n,w id (by rw[o];exact m id (.inr n))]
    .rw[E id n]
     by_cases d:id.1<st1.next
     .rw[L id d,w id d,A id n]
     .rw[q4 id (by omega) (A id n).symm]) (by rw[D,q2])
   subst this;exact⟨a,Z,C⟩
  .have:W=[]:=(by simpa using n);subst this;have Q:st1=st:=St.ext' (λid=>A id (by simp)) o;subst Q;obtain⟨b,C,D,M,E⟩:=K e (λid d=>w id (m id d));have:b=e:=St.ext' (λid=>E id (by simp)) D;subst this;exact⟨b,F,C⟩
 .cases l
end
section
variable{P:Program}{pol:Pol}{call:Hs->FuncId->List AV->St->Option (AV×St)}{c:Ctx}{ops:Array Oper}
def b9(P:Program)(c:Ctx)(L:List Nat)(s:S):Prop:=
 ∃E w a,Sim E w s.st/\Tm E w c.nt s.sl a/\HsOK P c.hs E w/\c.u<s.st.next/\Used E c.u (λn=>∀i∈L,n≠s.fc+i)
def xez(x:kH P call){L L':List Nat}{i:Nat}{s g:S}(y:b9 P c L s)(A:i∈L)(h:jH P pol call c ops i s=some g)(C:∀j∈L',j∈L/\j≠i):b9 P c L' g/\s.st.next<=g.st.next:=by
 obtain⟨E,w,tmps,r,F,t,o,u⟩:=y;obtain⟨e,p⟩:=xaf (a:={tmps,defers:=[]}) (b:=default) (k:=[]) (rest:=[]) x r F t o (λid l d m=>u id l d m i A) h;obtain⟨H,J,K,_,_,M,f⟩:=e [];refine⟨⟨J,K,H.tmps,f.sim,M,t.later r f.later,fN o f.next,f.used o u λn d j D=>?_⟩,f.next⟩;obtain⟨N,O⟩:=C j D;rw[p];rcases d with d|d
 .exact d j N
 .rw[d];omega
def xmr{L:List Nat}{s:S}(O:b9 P c L s){i:Nat}{o:Oper}{R W:List Id}(d:dV (c.u,s.fc+i,o.dst.getD 0) o s.sl=(some R,some W)):∀id:Id,id∈R\/id∈W->id.1<s.st.next:=by
 obtain⟨E,w,tmps,M,Z,hH,r,hU⟩:=O;have t:∀x,E.V w (ev s.sl x) (({tmps,defers:=[]}:Act).eval x):=Z.ev (a:={tmps,defers:=[]});have H:∀x id l m,ev s.sl x=.ptr id l m->id.1<s.st.next:=λx id l m e=>by have:=t x;rw[e]at this;obtain⟨_,_,_,h,_⟩:=tD this;exact M.dom _ _ _ h
 have Y:∀x id,ev s.sl x=.mp id->id.1<s.st.next:=λx id e=>by have:=t x;rw[e]at this;obtain⟨_,h,_⟩:=LR this;exact M.dom _ _ _ h
 have D:∀x id l m n z f,ev s.sl x=.sref id l m n z f->id.1<s.st.next:=λx id l m n z f e=>by have:=t x;rw[e]at this;obtain⟨_,_,_,_,_,h,_⟩:=mG this;exact M.dom _ _ _ h
 have fin:∀{j F:List Id},(∀id∈j,id.1<s.st.next)->(∀id∈F,id.1<s.st.next)->(some j,some F)=(some R,some W)->∀id:Id,id∈R\/id∈W->id.1<s.st.next:=(by intro j F Q X e id g;simp only[bF,bN]at e;obtain⟨rfl,rfl⟩:=e;exact g.elim (Q id) (X id));have one:∀{A:Id},A.1<s.st.next->∀id∈[A],id.1<s.st.next:=λh id g=>by simp at g;rw[g];exact h
 unfold dV at d;split at d
 .split at d
  .rename_i e;exact fin (one (H _ _ _ _ e)) (by simp) d
  .exact fin (by simp) (by simp) d
 .split at d
  .rename_i e;exact fin (by simp) (one (H _ _ _ _ e)) d
  .cases d
 .exact fin (by simp) (one r) d
 .exact fin (by simp) (one r) d
 .exact fin (by simp) (one r) d
 .exact fin (by simp) (one r) d
 .exact fin (by simp) (one r) d
 .split at d
  .rename_i e;exact fin (one (Y _ _ e)) (by simp) d
  .exact fin (by simp) (by simp) d
 .split at d
  .rename_i e;exact fin (one (H _ _ _ _ e)) (by simp) d
  .exact fin (by simp) (by simp) d
 all_goals try exact fin (by simp) (by simp) d
 .rename_i N _;split at d
  .rename_i b _;have C:∀{y:Operand} {j:List Id},(match ev s.sl y with | .sref id ..=>some [id] | .aN .. | .sc _=>some []|_=>none)=some j->∀id∈j,id.1<s.st.next:=by
    intro y j h;split at h
    .rename_i e;cases h;exact one (D _ _ _ _ _ _ _ e)
    .cases h;simp
    .cases h;simp
    .cases h
   have J:∀{y:Operand} {j:List Id},(match ev s.sl y with | .sref id _ _ _ _ true=>some [id] | .sref id _ _ _ _ false=>some [id,(c.u,s.fc+i,o.dst.getD 0)] | .aN .. | .sc _=>some [(c.u,s.fc+i,o.dst.getD 0)]|_=>none)=some j->∀id∈j,id.1<s.st.next:=by
    intro y j h;split at h
    .rename_i e;cases h;exact one (D _ _ _ _ _ _ _ e)
    .rename_i e;cases h;intro id g;rcases dW.mp g with rfl|g
     .exact D _ _ _ _ _ _ _ e
     .exact one r id g
    .cases h;exact one r
    .cases h;exact one r
    .cases h
   have K:∀{y:Operand} {j:List Id},(match ev s.sl y with | .sref id ..=>some [id] | .sc _=>some []|_=>none)=some j->∀id∈j,id.1<s.st.next:=by
    intro y j h;split at h
    .rename_i e;cases h;exact one (D _ _ _ _ _ _ _ e)
    .cases h;simp
    .cases h
   cases b with
   |len=>exact fin (by simp) (by simp) d
   |min=>exact fin (by simp) (by simp) d
   |max=>exact fin (by simp) (by simp) d
   |cap=>exact fin (by simp) (by simp) d
   |real=>exact fin (by simp) (by simp) d
   |imag=>exact fin (by simp) (by simp) d
   |complex=>exact fin (by simp) (by simp) d
   |append=>
    match p:N.args.toList with
    |[x,y]=>rw[p]at d;simp only[bF]at d;exact λid g=>g.elim (C d.1 id) (J d.2 id)
    |[]=>rw[p]at d;simp at d
    |[_]=>rw[p]at d;simp at d
    |_::_::_::_=>rw[p]at d;simp at d
   |copy=>
    match p:N.args.toList with
    |[x,y]=>rw[p]at d;simp only[bF]at d;exact λid g=>g.elim (C d.1 id) (K d.2 id)
    |[]=>rw[p]at d;simp at d
    |[_]=>rw[p]at d;simp at d
    |_::_::_::_=>rw[p]at d;simp at d
   |_=>simp at d
  .cases d
 .cases d
def qK(d:Option Tmp)(v:AV)(a:Nat->AV):Nat->AV:=
 match d with
 |some t=>tM a t v
 |none=>a
def YV{d:Option Tmp}{v:AV}{s a:S}(h:Ix.put c d v s=some a):(∀t,d=some t->t<c.nt)/\a={s with sl:=qK d v s.sl}:=by
 cases d with
 |none=>simp[Ix.put]at h;subst h;exact⟨by simp,rfl⟩
 |some t=>
  simp only[Ix.put]at h;split at h
  .rename_i b;cases h;exact⟨λf e=>by cases e;exact b,rfl⟩
  .cases h
def xby{d:Option Tmp}{v:AV}{s:S}(h:∀t,d=some t->t<c.nt):Ix.put c d v s=some {s with sl:=qK d v s.sl}:=by
 cases d with
 |none=>rfl
 |some t=>simp[Ix.put,h t rfl,qK]
def xn2{i:Nat->AV}{a b:Option Tmp}{v u:AV}(h:∀d,a=some d->b≠some d):qK b u (qK a v i)=qK a v (qK b u i):=by
 cases a with
 |none=>rfl
 |some d=>
  cases b with
  |none=>rfl
  |some e=>
   have g:d≠e:=λj=>h d rfl (by rw[j])
   funext t;simp only[qK,tM];by_cases f:t=e
   .rw[aF f,aB (λl=>g (l.symm.trans f)),aF f]
   .rw[aB f,aB f]
end
section
variable{E:Env}{w:World}{st:St}
def KP{f g:AV->List Id}:∀{l:List AV},(∀a∈l,f a=g a)->l.flatMap f=l.flatMap g
 |[],_=>rfl
 |a::l,h=>by rw[dT,dT,h a (by simp),KP λb d=>h b (eE _ d)]
def bm(W:Sim E w st){b:Id}(R:∀p,E.η b p=none)(o:Option Ob):∀(k:Nat) (a:AV) (u:Value),E.V w a u ->
    frz (bH st.aC b o) k a=frz st.aC k a/\reach (bH st.aC b o) k a=reach st.aC k a/\b∉reach st.aC k a
 |0,a,u,_=>by simp[frz,reach]
 |k+1,a,u,Q=>by
  have r:∀(g:List AV) (J:Array Value),(∀(i:Nat) (a:AV),g[i]?=some a->∃v,J[i]?=some v/\E.V w a v) ->
   g.mapM (frz (bH st.aC b o) k)=g.mapM (frz st.aC k)/\g.flatMap (reach (bH st.aC b o) k)=g.flatMap (reach st.aC k)/\b∉g.flatMap (reach st.aC k):=by
   intro g J h;have one:∀a∈g,frz (bH st.aC b o) k a=frz st.aC k a/\reach (bH st.aC b o) k a=reach st.aC k a/\b∉reach st.aC k a:=(by intro a m;obtain⟨i,X⟩:=FR.1 m;obtain⟨v,_,N⟩:=h i a X;exact bm W R o k a v N);refine⟨C7 λa m=>(one a m).1,KP λa m=>(one a m).2.1,λL=>?_⟩;obtain⟨a,m,L⟩:=mK.1 L;exact(one a m).2.2 L
  have cell:∀(id:Id) (g:List AV) (p:Nat) (fr:Bool),st.aC id=some (.row g p fr)->∀a∈g,∃v,E.V w a v:=(by intro id g p fr j a m;obtain⟨O,K,Z,t,h1,h2,h3,h4,h5,h6⟩:=W.obj id _ j;obtain⟨i,X⟩:=FR.1 m;obtain⟨v,_,N,_⟩:=h5 i a X;exact⟨v,N⟩);have y:∀(g:List AV),(∀a∈g,∃v,E.V w a v) ->
   g.mapM (frz (bH st.aC b o) k)=g.mapM (frz st.aC k)/\g.flatMap (reach (bH st.aC b o) k)=g.flatMap (reach st.aC k)/\b∉g.flatMap (reach st.aC k):=by
   intro g h;have one:∀a∈g,frz (bH st.aC b o) k a=frz st.aC k a/\reach (bH st.aC b o) k a=reach st.aC k a/\b∉reach st.aC k a:=λa m=>by obtain⟨v,N⟩:=h a m;exact bm W R o k a v N
   refine⟨C7 λa m=>(one a m).1,KP λa m=>(one a m).2.1,λL=>?_⟩;obtain⟨a,m,L⟩:=mK.1 L;exact(one a m).2.2 L
  cases a with
  |sc v=>simp[frz,reach]
  |aN _ _ _=>simp[frz,reach]
  |aE _=>simp[frz,reach]
  |un _=>simp[frz,reach]
  |yld _=>simp[frz,reach]
  |mp _=>simp[frz,reach]
  |agg g=>obtain⟨J,_,_,h⟩:=LT Q;obtain⟨D,F,H⟩:=r g J h;refine⟨?_,F,H⟩;show(g.mapM (frz (bH st.aC b o) k)).map AV.agg=_;rw[D];rfl
  |tup g=>obtain⟨J,_,_,h⟩:=dr Q;obtain⟨D,F,H⟩:=r g J h;refine⟨?_,F,H⟩;show(g.mapM (frz (bH st.aC b o) k)).map AV.tup=_;rw[D];rfl
  |clo f g=>obtain⟨J,_,_,h⟩:=G0 Q;obtain⟨D,F,H⟩:=r g J h;refine⟨?_,F,H⟩;show(g.mapM (frz (bH st.aC b o) k)).map (AV.clo f)=_;rw[D];rfl
  |sref id p M n z x=>
   obtain⟨O,K,len,a,cap,P,_⟩:=mG Q;have A:id≠b:=(by rintro rfl;rw[R]at P;cases P);have C:bH st.aC b o id=st.aC id:=(by simp[bH,A]);have hne':b≠id:=Ne.symm A;cases j:st.aC id with
   |none=>simp[frz,reach,C,j,hne']
   |some Y=>
    cases Y with
    |row g v fr=>
     obtain⟨D,F,H⟩:=y ((g.drop M).take (n*z)) λa m=>cell id g v fr j a (LZ (FQ m))
     simp only[frz,reach,C,j,D,F];simp only[dW,not_or];exact⟨trivial,trivial,hne',H⟩
    |map es=>simp[frz,reach,C,j,hne']
    |lp d=>simp[frz,reach,C,j,hne']
    |bld t e l=>simp[frz,reach,C,j,hne']
  |ptr id p M=>
   obtain⟨O,K,len,P,_⟩:=tD Q;have A:id≠b:=(by rintro rfl;rw[R]at P;cases P);have C:bH st.aC b o id=st.aC id:=(by simp[bH,A]);have hne':b≠id:=Ne.symm A;cases j:st.aC id with
   |none=>simp[frz,reach,C,j,hne']
   |some Y=>
    cases Y with
    |row g v fr=>
     obtain⟨D,F,H⟩:=y (g.drop M) λa m=>cell id g v fr j a (LZ m)
     simp only[frz,reach,C,j,D,F];simp only[dW,not_or];exact⟨trivial,trivial,hne',H⟩
    |map es=>simp[frz,reach,C,j,hne']
    |lp d=>simp[frz,reach,C,j,hne']
    |bld t e l=>simp[frz,reach,C,j,hne']
def x0s(g:Sim E w st){b:Id}(h:∀f,E.η b f=none)(o:Option Ob){l:List AV}(i:∀a∈l,∃v,E.V w a v)(k:Nat) :
    l.mapM (frz (bH st.aC b o) k)=l.mapM (frz st.aC k)/\l.flatMap (reach (bH st.aC b o) k)=l.flatMap (reach st.aC k)/\b∉l.flatMap (reach st.aC k):=by
 have one:∀a∈l,frz (bH st.aC b o) k a=frz st.aC k a/\reach (bH st.aC b o) k a=reach st.aC k a/\b∉reach st.aC k a:=λa d=>by obtain⟨v,j⟩:=i a d;exact bm g h o k a v j
 refine⟨C7 λa d=>(one a d).1,KP λa d=>(one a d).2.1,λe=>?_⟩;obtain⟨a,d,e⟩:=mK.1 e;exact(one a d).2.2 e
def xeh{b:Hs->FuncId->List AV->St->Option (AV×St)}{Z:Hs}(u:Sim E w st){e:Id}(x:∀m,E.η e m=none)(F:e.1<st.next)(o:Option Ob){d:Nat}(f:d=0\/d=3\/d=4){g:FuncId}{l:List AV}(y:∀a∈l,∃v,E.V w a v) :
    gJ b Z d (.clo g []) l {st with aC:=bH st.aC e o}=(gJ b Z d (.clo g []) l st).map λp=>(p.1,{p.2 with aC:=bH p.2.aC e o}):=by
 obtain⟨n,C,D⟩:=x0s u x o (l:=l++[]) (by simpa using y) bI;rcases f with rfl|rfl|rfl
 .simp only[gJ,n,C];cases(l++[]).mapM (frz st.aC bI)with
  |none=>rfl
  |some j=>
   simp only
   cases b [] g j pL with
   |none=>rfl
   |some p=>
    simp only[Option.map_map];congr 1;funext r;simp only[Function.comp];congr 2;funext i;unfold shut bH;by_cases h:i=e
    .subst h;rw[aB D];simp
    .simp[h]
 .simp only[gJ,n];cases(l++[]).mapM (frz st.aC bI)with
  |none=>rfl
  |some j=>
   simp only
   cases b [] g j pL with
   |none=>rfl
   |some p=>
    simp only
    split<;>rfl
 .simp only[gJ,n];cases(l++[]).mapM (frz st.aC bI)with
  |none=>rfl
  |some j=>
   simp only
   cases b [] g j {aC:=λ_=>none,next:=st.next}with
   |none=>rfl
   |some p=>
    simp only
    split
    .rename_i t;simp only[Option.map_some,bN,bF,true_and];congr 1;funext i;unfold bH;by_cases h:i=e
     .subst h;have:i∉reach p.2.aC bI p.1:=λA=>by simp only[cI]at t;have:=dJ.1 t.2 i A;simp only[cI,mR]at this;omega
      simp[this]
     .simp[h]
    .rfl
end
def Eqf(a b:Id->Option Ob):Prop:=∀id,match a id,b id with
 |some (.row e v _),some (.row d f _)=>e=d/\v=f
 |x,y=>x=y
def Eqf.refl(a:Id->Option Ob):Eqf a a:=λid=>by
 cases h:a id with
 |none=>rfl
 |some o=>cases o<;>simp
def Eqf.row{a b:Id->Option Ob}(h:Eqf a b){id:Id}{cs:List AV}{v:Nat}{f:Bool}(e:a id=some (.row cs v f)):∃i,b id=some (.row cs v i):=by
 have:=h id;rw[e]at this;cases g:b id with
 |none=>rw[g]at this;simp at this
 |some o=>
  cases o with
  |row j m i=>rw[g]at this;simp at this;obtain⟨rfl,rfl⟩:=this;exact⟨i,rfl⟩
  |map p=>rw[g]at this;simp at this
  |lp d=>rw[g]at this;simp at this
  |bld t e l=>rw[g]at this;simp at this
def Eqf.map{a b:Id->Option Ob}(h:Eqf a b){id:Id}{d:List (Value×AV)}(e:a id=some (.map d)):b id=some (.map d):=by
 have:=h id;rw[e]at this;cases f:b id with
 |none=>rw[f]at this;simp at this
 |some o=>cases o<;>(rw[f]at this;simp at this;first|(subst this;rfl)|done)
def Eqf.shut(b:List Id)(a:Id->Option Ob):Eqf (shut b a) a/\Eqf a (Ix.shut b a):=by
 refine⟨λid=>?_,λid=>?_⟩;all_goals
  by_cases d:id∈b
  .cases h:a id with
   |none=>simp[Ix.shut,d,h]
   |some o=>cases o<;>simp[Ix.shut,d,h]
  .cases h:a id with
   |none=>simp[Ix.shut,d,h]
   |some o=>cases o<;>simp[Ix.shut,d,h]
section
variable{P:Program}{id0:Id}{o:Oper}{sl:Nat->AV}{aC objs':Id->Option Ob}{v:AV}
def xpi(y:sO o.op=true)(O:mapLen P o sl=false)(h:aO P id0 o sl aC=some (v,objs')):objs'=aC/\∀d:Id->Option Ob,Eqf aC d->aO P id0 o sl d=some (v,d):=by
 have qS:dV id0 o sl=(some [],some [])->objs'=aC/\∀d:Id->Option Ob,Eqf aC d->aO P id0 o sl d=some (v,d):=by
  intro Q;obtain⟨f1,f2⟩:=xd9 h Q O;have e:objs'=aC:=funext λi=>f1 i (by simp)
  refine⟨e,λd _=>?_⟩;obtain⟨p,L,_,g3⟩:=f2 d (by simp);have e2:p=d:=funext λi=>g3 i (by simp)
  rw[e2]at L;exact L
 cases n:o.op with
 |load t a=>
  simp only[aO,n]at h ⊢;split at h
  .rename_i g z R;split at h
   .rename_i K C;split at h
    .cases h
    .rename_i W;simp only[cE,bF]at h;obtain⟨r,H,rfl,rfl⟩:=h;exact⟨rfl,λd _=>by simp[H,W]⟩
   .rename_i id f j C;split at h
    .rename_i K X fr l;split at h
     .rename_i Y;simp only[cE,bF]at h;obtain⟨r,H,rfl,rfl⟩:=h;refine⟨rfl,λd u=>?_⟩;obtain⟨f',J⟩:=u.row l;simp only[J,aF Y,H,Option.map_some]
     .cases h
    .cases h
   .cases h
  .cases h
 |lookup t x ix ok=>
  simp only[aO,n]at h ⊢;have F:∀d:Id->Option Ob,Eqf aC d->∀A,sG aC (ev sl x)=some A->sG d (ev sl x)=some A:=by
   intro d u A;unfold sG;split
   .rename_i id C;split
    .rename_i Z l;intro w;cases w;rw[u.map l]
    .intro w;cases w
   .exact λw=>w
   .exact λw=>w
  split at h
  .split at h
   .split at h
    .rename_i A E;split at h
     .cases h;exact⟨rfl,λd u=>by rw[F d u A E];simp_all⟩
     .cases h
    .cases h
   .cases h
  .cases h
 |slice t x lo N mx=>
  by_cases M:∃id f j,ev sl x=.ptr id f j;rotate_left
  .refine qS ?_;simp only[dV,n];split
   .rename_i id f j e;exact absurd ⟨id,f,j,e⟩ M
   .rfl
  obtain⟨id,f,j,C⟩:=M;cases mx with
  |some m=>
   cases N with
   |none=>simp[aO,n]at h
   |some N=>
    simp only[aO,n,C,dO]at h;split at h
    .split at h
     .cases h
     .cases h
    .cases h
  |none=>
   simp only[aO,n,C,dO]at h ⊢;split at h
   .split at h
    .cases h
    .cases h
   .split at h
    .split at h
     .rename_i K X fr l;split at h
      .rename_i D;simp only[bN,bF]at h;obtain⟨rfl,rfl⟩:=h;refine⟨rfl,λd u=>?_⟩;obtain⟨f',J⟩:=u.row l;simp only[J];simp_all<;>omega
      .cases h
     .cases h
    .cases h
   .cases h
 |call c=>
  simp only[sO,n]at y;cases D:c.callee with
  |builtin b=>rw[D]at y;exact qS (by cases b<;>simp at y<;>simp[dV,n,D])
  |value _=>simp[D]at y
  |invoke _ _=>simp[D]at y
 |_=>first|(simp[sO,n]at y;done)|exact qS (by simp[dV,n])
def xwc(i:wM o.op=true)(h:aO P id0 o sl aC=some (v,objs')) :
    (objs'=aC/\∀a:Id->Option Ob,aO P id0 o sl a=some (v,a))\/∃g,objs'=bH aC id0 (some g)/\∀a:Id->Option Ob,aO P id0 o sl a=some (v,bH a id0 (some g)):=by
 cases b:o.op with
 |alloc t=>
  simp only[aO,b]at h;split at h
  .rename_i j d;split at h
   .rename_i e f;cases h;exact .inr ⟨_,rfl,λa=>by simp[aO,b,d,f]⟩
   .rename_i f;cases h;exact .inr ⟨_,rfl,λa=>by simp[aO,b,d,f]⟩
  .cases h
 |box t x=>
  simp only[aO,b]at h;split at h
  .rename_i d;cases h;exact .inr ⟨_,rfl,λa=>by simp only[aO,b];rw[aF d]⟩
  .cases h
 |makeMap t r=>
  cases r with
  |some r=>simp[aO,b]at h
  |none=>simp only[aO,b]at h;cases h;exact .inr ⟨_,rfl,λa=>by simp[aO,b]⟩
 |makeSlice t l c=>
  simp only[aO,b]at h;split at h
  .split at h
   .split at h
    .cases h;exact .inr ⟨_,rfl,λa=>by simp_all [aO]⟩
    .cases h
   .cases h
  .cases h
 |buildSlice t n m=>
  simp only[aO,b]at h;split at h
  .split at h
   .split at h
    .split at h
     .split at h
      .cases h
      .split at h
       .cases h;exact .inl ⟨rfl,λa=>by simp_all [aO]⟩
       .cases h;exact .inr ⟨_,rfl,λa=>by simp_all [aO]⟩
     .cases h
    .cases h
   .cases h
  .cases h
 |_=>simp[b,wM]at i
end
section
variable{P:Program}{pol:Pol}{call:Hs->FuncId->List AV->St->Option (AV×St)}{c:Ctx}{ops:Array Oper}
def E7{i Y:Nat}{o:Oper}{f:Nat->AV}{st:St}(g:∀j a b,o.op≠.call ⟨.value j,a,b⟩)(h:∀rv d a b,o.op≠.call ⟨.invoke rv d,a,b⟩) :
    eH P pol call c ops i Y o f st=if mZ ops o f then(aO P (c.u,Y+i,o.dst.getD 0) o f st.aC).map λp=>(p.1,{st with aC:=p.2})else some (.sc undef,st):=by
 unfold eH;split
 .split
  .rename_i e;exact absurd e (g _ _ _)
  .rename_i e;exact absurd e (h _ _ _ _)
  .rfl
 .rfl
def ax{o:Oper}(h:sO o.op=true\/wM o.op=true):(∀f a b,o.op≠.call ⟨.value f,a,b⟩)/\∀rv d a b,o.op≠.call ⟨.invoke rv d,a,b⟩:=by refine⟨λf a b e=>?_,λrv d a b e=>?_⟩<;>(rw[e]at h;rcases h with h|h<;>simp[sO,wM]at h)
def xfk{i Y:Nat}{o:Oper}{b:Nat->AV}{st st1:St}{v:AV}(j:sO o.op=true)(l:mapLen P o b=false)(h:eH P pol call c ops i Y o b st=some (v,st1)) :
    st1=st/\∀a:St,Eqf st.aC a.aC->eH P pol call c ops i Y o b a=some (v,a):=by
 obtain⟨f,g⟩:=ax (.inl j);rw[E7 f g]at h;split at h
 .rename_i d;simp only[cE,bF]at h;obtain⟨p,n,rfl,rfl⟩:=h;obtain⟨e,r⟩:=xpi (v:=p.1) (objs':=p.2) j l n;refine⟨by rw[e],λa m=>?_⟩;rw[E7 f g,aF d,r _ m];rfl
 .rename_i d;cases h;exact⟨rfl,λa _=>by rw[E7 f g,aB d]⟩
def KS{i Y:Nat}{o:Oper}{j:Nat->AV}{st st1:St}{v:AV}(m:wM o.op=true)(h:eH P pol call c ops i Y o j st=some (v,st1)) :
    (st1=st/\∀a:St,eH P pol call c ops i Y o j a=some (v,a)) \/
    ∃b,st1={st with aC:=bH st.aC (c.u,Y+i,o.dst.getD 0) (some b)}/\∀a:St,eH P pol call c ops i Y o j a=some (v,{a with aC:=bH a.aC (c.u,Y+i,o.dst.getD 0) (some b)}):=by
 obtain⟨f,g⟩:=ax (.inr m);rw[E7 f g]at h;split at h
 .rename_i d;simp only[cE,bF]at h;obtain⟨p,n,rfl,rfl⟩:=h;rcases xwc (v:=p.1) (objs':=p.2) m n with ⟨e,l⟩|⟨b,e,l⟩
  .refine .inl ⟨by rw[e],λa=>?_⟩;rw[E7 f g,aF d,l];rfl
  .refine .inr ⟨b,by rw[e],λa=>?_⟩;rw[E7 f g,aF d,l];rfl
 .rename_i d;cases h;exact .inl ⟨rfl,λa=>by rw[E7 f g,aB d]⟩
def mQ{i Y:Nat}{x:Oper}{g:FuncId}{a:Array Operand}{b:Array TypeId}(e:x.op=.call ⟨.value (.func g),a,b⟩){d:Nat->AV}{st:St} :
    eH P pol call c ops i Y x d st=if mZ ops x d then kW call c.u Y c.hs (nm (pol c.f (x.dst.getD 0))) (.clo g []) (a.toList.map (ev d)) st else some (.sc undef,st):=by
 unfold eH;rw[e];rfl
def xak{a:Nat}{x:Oper}{y:Op}(h:tP a x y=true):(∃g b d,x.op=.call ⟨.value (.func g),b,d⟩)/\((wM y=true/\(nm a=0\/nm a=3\/nm a=4))\/(sO y=true/\(nm a=0\/nm a=3))\/((wM y=true\/yU y=true)/\nm a=9)):=by
 unfold tP at h;simp only[cI,lD]at h;obtain⟨i,f⟩:=h;refine⟨?_,?_⟩
 .split at i
  .rename_i g b d e;exact⟨g,b,d,e⟩
  .cases i
 .rcases f with (⟨f,h3⟩|⟨f,h3⟩)|⟨f,h3⟩
  .left;refine⟨f,?_⟩;rcases h3 with (h3|h3)|h3<;>(have:=fE h3;subst this;simp[nm])
  .right;left;refine⟨f,?_⟩;rcases h3 with h3|h3<;>(have:=fE h3;subst this;simp[nm])
  .right;right;refine⟨f,?_⟩;have:=fE h3;subst this;simp[nm]
def uO{u Y:Nat}{Z:Hs}{a:Nat}{b:AV}{l:List AV}{st:St}(h:a≠9):kW call u Y Z a b l st=gJ call Z a b l st:=by unfold kW;rw[aB h]
def xei{u Y:Nat}{Z:Hs}{g:FuncId}{l:List AV}{st:St}{a:Id}(o:Option Ob)(b:sN u Y a=true) :
    kW call u Y Z 9 (.clo g []) l {st with aC:=bH st.aC a o}=(kW call u Y Z 9 (.clo g []) l st).map λp=>(p.1,{p.2 with aC:=bH p.2.aC a o}):=by
 unfold kW;rw[aF rfl,aF rfl];have e:wK u Y {st with aC:=bH st.aC a o}=wK u Y st:=by
  unfold wK;simp only
  congr 1;funext i;by_cases h:i=a
  .subst h;simp[b]
  .simp[bH,h]
 simp only[e];cases call [] g (l++[]) (wK u Y st)with
 |none=>rfl
 |some p=>
  simp only[Option.map_some,bN,bF,true_and];unfold LM;simp only
  congr 1;funext i;by_cases h:i=a
  .subst h;simp[b,bH]
  .simp[bH,h]
def xeu{u Y i d:Nat}:sN u Y (u,Y+i,d)=true:=by simp[sN]
def xfl{i Y:Nat}{o:Oper}{g:Nat->AV}{st st1:St}{v:AV}(a:yU o.op=true)(n:mapLen P o g=false)(h:eH P pol call c ops i Y o g st=some (v,st1)) :
    st1=st/\∀d:St,eH P pol call c ops i Y o g d=some (v,d):=by
 have p:sO o.op=true:=by
  cases f:o.op with
  |call m=>simp only[f,yU]at a;simp only[sO];exact a
  |_=>first|rfl|(simp[f,yU]at a;done)
 have r:dV (c.u,Y+i,o.dst.getD 0) o g=(some [],some []):=by
  cases f:o.op with
  |call m=>
   simp only[f,yU]at a;simp only[dV,f];cases j:m.callee with
   |builtin b=>rw[j]at a;cases b<;>simp at a<;>rfl
   |value _=>rw[j]at a;cases a
   |invoke _ _=>rw[j]at a;cases a
  |_=>first|(simp[dV,f];done)|(simp[f,yU]at a;done)
 obtain⟨w,F⟩:=ax (.inl p);have t:fV o=false:=by
  unfold fV;split
  .rename_i e;exact absurd e (w _ _ _)
  .rfl
 obtain⟨x,y,A⟩:=E8 t h r n;refine⟨St.ext' (λid=>y id (by simp)) x,λd=>?_⟩;obtain⟨l,C,D,H,E⟩:=A d (by simp);rw[C,St.ext' (λid=>E id (by simp)) D]
def xal{Z:Hs}{a:Nat}(b:a=0\/a=3){g:FuncId}{l:List AV}{st st1:St}{v:AV}(h:gJ call Z a (.clo g []) l st=some (v,st1)):Eqf st.aC st1.aC/\Eqf st1.aC st.aC:=by
 rcases b with rfl|rfl
 .simp only[gJ]at h;split at h
  .split at h
   .simp only[cE,bF]at h;obtain⟨d,_,rfl,rfl⟩:=h;exact⟨(Eqf.shut _ _).2,(Eqf.shut _ _).1⟩
   .cases h
  .cases h
 .simp only[gJ]at h;split at h
  .split at h
   .split at h
    .cases h;exact⟨Eqf.refl _,Eqf.refl _⟩
    .cases h
   .cases h
  .cases h
def xm4{L:List Nat}{i j:Nat}{x y:Oper}{s:S}{st1 p:St}{v u:AV}(F:b9 P c L s)(H:j∈L)(t:mapLen P y s.sl=false)(Z:tP (pol c.f (x.dst.getD 0)) x y.op=true)(d:eH P pol call c ops i s.fc x s.sl s.st=some (v,st1))(A:eH P pol call c ops j s.fc y s.sl st1=some (u,p)) :
    ∃n,eH P pol call c ops j s.fc y s.sl s.st=some (u,n)/\eH P pol call c ops i s.fc x s.sl n=some (v,p):=by
 obtain⟨⟨g,C,N,b⟩,O⟩:=xak Z;obtain⟨E,w,tmps,Q,R,hH,W,X⟩:=F;rw[mQ b]at d;split at d;rotate_left
 .rename_i o;cases d;exact⟨p,A,by rw[mQ b,aB o]⟩
 rename_i o;have K:∀l,E.η (c.u,s.fc+j,y.dst.getD 0) l=none:=λl=>by
  cases he:E.η (c.u,s.fc+j,y.dst.getD 0) l with
  |none=>rfl
  |some z=>exact absurd rfl (X _ l (by rw[he];simp) rfl j H)
 have M:∀a∈C.toList.map (ev s.sl),∃v,E.V w a v:=λa J=>by obtain⟨z,_,rfl⟩:=fF.1 J;exact⟨_,(Tm.ev (a:={tmps,defers:=[]}) R) z⟩
 rcases O with ⟨r,h⟩|⟨m,h⟩|⟨r,h⟩
 .rw[uO (by rcases h with e|e|e<;>simp[e])]at d;rcases KS r A with ⟨rfl,m⟩|⟨ob,rfl,m⟩
  .exact⟨s.st,m s.st,by rw[mQ b,aF o,uO (by rcases h with e|e|e<;>simp[e]),d]⟩
  .refine⟨_,m s.st,?_⟩;rw[mQ b,aF o,uO (by rcases h with e|e|e<;>simp[e]),xeh Q K (by exact W) _ h M,d];rfl
 .rw[uO (by rcases h with e|e<;>simp[e])]at d;obtain⟨e1,Y⟩:=xal h d;obtain⟨rfl,D⟩:=xfk m t A;exact⟨s.st,D _ Y,by rw[mQ b,aF o,uO (by rcases h with e|e<;>simp[e]),d]⟩
 .rcases r with r|r
  .rcases KS r A with ⟨rfl,m⟩|⟨ob,rfl,m⟩
   .exact⟨s.st,m s.st,by rw[mQ b,aF o,d]⟩
   .refine⟨_,m s.st,?_⟩;rw[h]at d;rw[mQ b,aF o,h,xei _ xeu,d];rfl
  .obtain⟨rfl,D⟩:=xfl r t A;exact⟨s.st,D _,by rw[mQ b,aF o,d]⟩
def xm7{L:List Nat}{i j:Nat}{x y:Oper}{s:S}{st1 b:St}{v u:AV}(J:b9 P c L s)(K:i∈L)(A:mapLen P x s.sl=false)(Z:tP (pol c.f (y.dst.getD 0)) y x.op=true)(C:eH P pol call c ops i s.fc x s.sl s.st=some (v,st1))(h:eH P pol call c ops j s.fc y s.sl st1=some (u,b)) :
    ∃o,eH P pol call c ops j s.fc y s.sl s.st=some (u,o)/\eH P pol call c ops i s.fc x s.sl o=some (v,b):=by
 obtain⟨⟨g,D,Q,d⟩,R⟩:=xak Z;obtain⟨E,w,tmps,W,X,hH,Y,hU⟩:=J;rw[mQ d]at h;split at h;rotate_left
 .rename_i r;cases h;exact⟨s.st,by rw[mQ d,aB r],C⟩
 rename_i r;have N:∀m,E.η (c.u,s.fc+i,x.dst.getD 0) m=none:=λm=>by
  cases he:E.η (c.u,s.fc+i,x.dst.getD 0) m with
  |none=>rfl
  |some z=>exact absurd rfl (hU _ m (by rw[he];simp) rfl i K)
 have O:∀a∈D.toList.map (ev s.sl),∃v,E.V w a v:=λa M=>by obtain⟨z,_,rfl⟩:=fF.1 M;exact⟨_,(Tm.ev (a:={tmps,defers:=[]}) X) z⟩
 rcases R with ⟨t,l⟩|⟨n,l⟩|⟨t,l⟩
 .rw[uO (by rcases l with e|e|e<;>simp[e])]at h;rcases KS t C with ⟨rfl,n⟩|⟨ob,rfl,n⟩
  .exact⟨b,by rw[mQ d,aF r,uO (by rcases l with e|e|e<;>simp[e]),h],n b⟩
  .rw[xeh W N (by exact Y) _ l O]at h;simp only[cE,bF]at h;obtain⟨p,F,rfl,rfl⟩:=h;exact⟨p.2,by rw[mQ d,aF r,uO (by rcases l with e|e|e<;>simp[e]),F],n p.2⟩
 .rw[uO (by rcases l with e|e<;>simp[e])]at h;obtain⟨rfl,H⟩:=xfk n A C;obtain⟨e1,e2⟩:=xal l h;exact⟨b,by rw[mQ d,aF r,uO (by rcases l with e|e<;>simp[e]),h],H b e1⟩
 .rcases t with t|t
  .rcases KS t C with ⟨rfl,n⟩|⟨ob,rfl,n⟩
   .exact⟨b,by rw[mQ d,aF r,h],n b⟩
   .rw[l,xei _ xeu]at h;simp only[cE,bF]at h;obtain⟨p,F,rfl,rfl⟩:=h;exact⟨p.2,by rw[mQ d,aF r,l,F],n p.2⟩
  .obtain⟨rfl,H⟩:=xfl t A C;exact⟨b,by rw[mQ d,aF r,h],H b⟩
end
section
variable{P:Program}{pol:Pol}{call:Hs->FuncId->List AV->St->Option (AV×St)}{c:Ctx}{ops:Array Oper}
def dq{y:Oper}{d:Option Tmp}{v:AV}{a:Nat->AV}(h:∀t,d=some t->t∉y.looksAt ops):zO ops y a (qK d v a):=by
 intro t b;cases d with
 |none=>rfl
 |some e=>simp only[qK,tM];rw[aB];rintro rfl;exact h t rfl b
def xm3{L:List Nat}{i j d:Nat}{x y:Oper}{s D E:S}(e:mapLen P x s.sl=false)(f:mapLen P y s.sl=false)(m:ops[i]?=some x)(n:ops[j]?=some y)(o:b9 P c L s)(F:i∈L)(H:j∈L)(J:d<=s.st.next)(p:jH P pol call c ops i s=some D)(r:jH P pol call c ops j D=some E)(a:pairOK pol c s.fc d ops i j s.sl=true):∃h,jH P pol call c ops j s=some h/\jH P pol call c ops i h=some E:=by
 rw[EK m]at p;simp only[oF]at p;obtain⟨⟨v,st1⟩,l,M⟩:=p;obtain⟨N,rfl⟩:=YV M;rw[EK n]at r;simp only[oF]at r;obtain⟨⟨u,C⟩,g,O⟩:=r;obtain⟨Q,rfl⟩:=YV O;simp only[pairOK,m,n,cI,lD]at a;obtain⟨X,a⟩:=a;obtain⟨Y,Z,a3⟩:=Oper.apart_spec X;rw[xfn (dq Y)]at g;have A:∃b,eH P pol call c ops j s.fc y s.sl s.st=some (u,b)/\eH P pol call c ops i s.fc x s.sl b=some (v,C):=by
  rcases a with (a|a)|a
  .exact xm4 o H f a l g
  .exact xm7 o F e a l g
  split at a
  .exact xm8 f l g J a
  .rename_i t;split at a
   .exact xm6 e l g (λR W K=>xmr o K) a
   .rename_i w;exact xm5 e f (by simpa using t) (by simpa using w) l g a
 obtain⟨b,k1,k2⟩:=A;refine⟨{sl:=qK y.dst u s.sl,st:=b,fc:=s.fc},?_,?_⟩
 .rw[EK n,k1];simp only[V5];rw[xby Q]
 .rw[EK m];simp only
  rw[xfn (dq a3),k2];simp only[V5];rw[xby N];simp only
  rw[xn2 Z]
def M'{a:Id}{o:Oper}{g d:Nat->AV}(h:quiet o.op=true):dV a o d=dV a o g:=by
 unfold dV;cases f:o.op with
 |call i=>
  simp only[quiet,f]at h;cases e:i.callee with
  |builtin b=>cases b<;>simp[e]at h<;>simp only[e]
  |_=>simp[e]at h
 |_=>first|rfl|(simp[quiet,f]at h;done)
def xc9{m:Nat}{o:Oper}{d a:Nat->AV}(h:quiet o.op=true):gV m o a=gV m o d:=by
 unfold gV;cases e:o.op with
 |call g=>
  simp only[quiet,e]at h;cases b:g.callee with
  |value f=>simp[b]at h
  |_=>simp only[b]
 |_=>rfl
def FN(P:Program)(a:Array Oper)(o:Oper)(d b:Nat->AV):Prop:=xV P o.op=true\/zO a o d b
def JG{o:Op}(h:xV P o=true):quiet o=true:=by unfold xV at h;rw[cI]at h;exact h.1
def xdf{o:Oper}{b a:Nat->AV}(h:FN P ops o b a):mapLen P o a=mapLen P o b:=by
 unfold mapLen;cases d:o.op with
 |convert f g x=>
  simp only
  split
  .rename_i Z e;rcases h with h|h
   .unfold xV B' at h;rw[d]at h;simp only[Z,e,cN,Bool.and_false]at h;cases h
   .have:=V2 h x (by rw[d];simp[Op.operands]);rw[this]
  .rfl
 |_=>rfl
def xus{i j Y d:Nat}{x y:Oper}{e a:Nat->AV}(l:ops[i]?=some x)(n:ops[j]?=some y)(f:FN P ops x e a)(g:FN P ops y e a):pairOK pol c Y d ops i j a=pairOK pol c Y d ops i j e:=by
 have o:∀b,dV b x a=dV b x e:=λb=>f.elim (λh=>M' (JG h)) N'
 have p:∀b,dV b y a=dV b y e:=λb=>g.elim (λh=>M' (JG h)) N'
 have r:∀m,gV m x a=gV m x e:=λm=>f.elim (λh=>xc9 (JG h)) xda
 have t:∀m,gV m y a=gV m y e:=λm=>g.elim (λh=>xc9 (JG h)) xda
 simp only[pairOK,l,n,sY,o,p,r,t]
def xne{i:Nat}{s a:S}(h:jH P pol call c ops i s=some a):∃v,a.sl=qK ((ops[i]?).bind (·.dst)) v s.sl:=by
 cases b:ops[i]? with
 |none=>unfold jH at h;simp only[b,bN]at h;subst h;exact⟨.sc undef,rfl⟩
 |some o=>rw[EK b]at h;simp only[oF]at h;obtain⟨⟨v,st1⟩,_,d⟩:=h;obtain⟨_,rfl⟩:=YV d;exact⟨v,rfl⟩
def YI:∀(M:List Nat) {s a:S} {o:Oper},iT P pol call c ops M s=some a->(∀j∈M,∀d,(ops[j]?).bind (·.dst)=some d->d∉o.looksAt ops)->zO ops o s.sl a.sl
 |[],s,a,o,h,_=>by simp[iT]at h;subst h;exact λ_ _=>rfl
 |j::M,s,a,o,h,f=>by
  simp only[iT]at h;split at h
  .rename_i m b;obtain⟨v,l⟩:=xne b;have i:=YI M h (λk g=>f k (eE _ g));intro t e;rw[i t e,l];exact dq (f j (eP)) t e
  .cases h
structure Fit (P:Program) (pol:Pol) (c:Ctx) (ops:Array Oper) (fc next0:Nat) (slf:Nat->AV) (bef:Nat->Nat->Bool) (M:List Nat):Prop where
 sorted:M.Pairwise (· < ·)
 size:∀i∈M,i<ops.size
 late:∀i∈M,∀j∈M,i<=j->Ix.late P ops i j=true
 pair:∀i∈M,∀j∈M,i<j->bef j i=false->pairOK pol c fc next0 ops i j slf=true
 len:∀i∈M,∀o,ops[i]?=some o->mapLen P o slf=false
def O'(hc:kH P call){g Y:Nat}{bef:Nat->Nat->Bool}{x:Nat}{B:List Nat}{C:S}:∀(A:List Nat) {s:S},(A++x::B).Nodup->b9 P c (A++x::B) s->g<=s.st.next->s.fc=Y->Fit P pol c ops Y g C.sl bef (A++x::B)->(∀a∈A,bef x a=false) ->
    iT P pol call c ops (A++x::B) s=some C->iT P pol call c ops (x::(A++B)) s=some C
 |[],s,_,_,_,_,_,_,h=>h
 |a::A,s,hN,hg,hn,N,f,hb,h=>by
  have hA:a<ops.size:=f.size a (by simp);have hX:x<ops.size:=f.size x (by simp);have R:a<x:=(by have:=vA.1 f.sorted;exact this.1 x (by simp));rw[iY]at h hN;simp only[iT]at h;split at h
  .rename_i s' r;have hN':=zR.1 hN;obtain⟨hg',hn'⟩:=xez (L':=A++x::B) hc hg (eP) r (λj l=>⟨eE _ l,λe=>hN'.1 (e▸l)⟩);have hf':Fit P pol c ops Y g C.sl bef (A++x::B):=⟨(vA.1 f.sorted).2,λi p=>f.size i (eE _ p),λi p j l=>f.late i (eE _ p) j (eE _ l),λi p j l=>f.pair i (eE _ p) j (eE _ l),λi p=>f.len i (eE _ p)⟩;have H:=O' hc (s:=s') A hN'.2 hg' (iQ hn hn') ((ai r).trans N) hf' (λb O=>hb b (eE _ O)) h;simp only[iT]at H;split at H
   .rename_i s'' u;have hp:=f.pair a (by simp) x (by simp) R (hb a (by simp));have F:ops[a]?=some ops[a]:=iZ hA;have t:ops[x]?=some ops[x]:=iZ hX;have o:∀i∈a::(A++x::B),∀(p:i<ops.size),∀j∈a::(A++x::B),i<=j->xV P (ops[i]).op=true\/∀d,(ops[j]?).bind (·.dst)=some d->d∉(ops[i]).looksAt ops:=by
     intro i p E j l Q;have w:=f.late i p j l Q;unfold Ix.late at w;rw[iZ E]at w;cases D:(ops[j]?).bind (·.dst)with
     |none=>exact .inr (by simp)
     |some d=>
      simp only[D,lD,pq]at w;rcases w with w|w
      .exact .inl w
      .exact .inr (λd' e=>by cases e;simpa using w)
    have y:iT P pol call c ops (a::x::(A++B)) s=some C:=(by simp only[iT,r,u];exact H);have m:FN P ops ops[a] s.sl C.sl:=by
     by_cases M:xV P (ops[a]).op=true
     .exact .inl M
     .refine .inr (YI _ y λj l d D=>?_);have hj':j∈a::(A++x::B):=(by simp at l ⊢;rcases l with h|h|h|h<;>simp[h]);have W:a<=j:=by
       have:=vA.1 f.sorted;rcases dW.1 hj' with rfl|h
       .exact bO _
       .exact Nat.le_of_lt (this.1 j h)
      exact((o a (by simp) hA j hj' W).resolve_left M) d D
    have n:FN P ops ops[x] s.sl C.sl:=by
     by_cases M:xV P (ops[x]).op=true
     .exact .inl M
     .refine .inr (YI _ y λj l d D=>?_);have hj':j∈a::(A++x::B):=(by simp at l ⊢;rcases l with h|h|h|h<;>simp[h]);rcases kS j x with E|hge
      .have X:bef x j=false:=by
        have:j∈a::A:=by
         have J:=f.sorted;rw[V7]at J;have Z:j∈(a::A)++(x::B):=(by simpa using hj');rcases iF.1 Z with h|h
         .exact h
         .rcases dW.1 h with rfl|h
          .omega
          .have:=(vA.1 J.2.1).1 j h;omega
        exact hb j this
       have K:=f.pair j hj' x (by simp) E X;have L:=f.size j hj';simp only[pairOK,iZ L,t,cI]at K;rw[iZ L]at D;exact(Oper.apart_spec K.1).1 d D
      .exact((o x (by simp) hX j hj' hge).resolve_left M) d D
    rw[xus F t m n]at hp;obtain⟨s1',k1,k2⟩:=xm3 ((xdf m).symm.trans (f.len a (by simp) _ F)) ((xdf n).symm.trans (f.len x (by simp) _ t)) F t hg (by simp) (by simp) hn r u (by rw[N];exact hp);simp only[iY,iT,k1,k2];exact H
   .cases H
  .cases h
end
section
variable{P:Program}{pol:Pol}{call:Hs->FuncId->List AV->St->Option (AV×St)}{c:Ctx}{ops:Array Oper}
inductive Legal (bef:Nat->Nat->Bool):List Nat->List Nat->Prop
 |nil:Legal bef [] []
 |cons {A B L:List Nat} {x:Nat} (h:∀a∈A++B,bef x a=false) (h':Legal bef (A++B) L):Legal bef (A++x::B) (x::L)
def xo2(w:kH P call){d Y:Nat}{bef:Nat->Nat->Bool}{o:S}{M L:List Nat}(D:Legal bef M L):∀{s:S},M.Nodup->b9 P c M s->d<=s.st.next->s.fc=Y->Fit P pol c ops Y d o.sl bef M->iT P pol call c ops M s=some o->iT P pol call c ops L s=some o:=by
 induction D with
 |nil=>intro s _ _ _ _ _ h;exact h
 | @cons A B L x F _ H=>
   intro s p y C m l h;have h':=O' w A p y C m l (λa E=>F a (zT _ E)) h;simp only[iT]at h' ⊢;split at h'
   .rename_i J n;have b:∀j∈A++B,j∈A++x::B:=λj f=>by simp at f ⊢;rcases f with h|h<;>simp[h]
    have r:∀j∈A++B,j≠x:=by
     intro j f e;subst e;have:=p;rw[zS]at this;rcases iF.1 f with h|h
     .exact this.2.2 j h j (by simp) rfl
     .exact(zR.1 this.2.1).1 h
    obtain⟨t,u⟩:=xez (L':=A++B) w y (by simp) n (λj f=>⟨b j f,r j f⟩);exact H (List.Nodup.sublist (List.Sublist.append_left (List.sublist_cons_self _ _) _) p) t (iQ C u) ((ai n).trans m)
     ⟨l.sorted.sublist (List.Sublist.append_left (List.sublist_cons_self _ _) _),λi g=>l.size i (b i g),λi g j f=>l.late i (b i g) j (b j f),λi g j f=>l.pair i (b i g) j (b j f),λi g=>l.len i (b i g)⟩ h'
   .cases h'
end
section
variable{ops:Array Oper}
def nN(o:Oper):List Nat:=(o.after.toList.filter (Region.binds .any)).map (·.on)
def xha(X:Nat->Prop)(t:∀i o,ops[i]?=some o->X i->∀k∈nN o,X k):∀(p:List Oper) (a:List (List Nat)),(∀i,ops[a.length+i]?=p[i]?)->(∀j o,j<a.length->ops[j]?=some o->(∀k∈nN o,X k)->∀k∈a.getD j [],X k) ->
    ∀j o,ops[j]?=some o->(∀k∈nN o,X k)->∀k∈(p.foldl (λa o=>a++[(o.after.toList.filter (Region.binds .any)).flatMap λe=>e.on::a.getD e.on []]) a).getD j [],X k
 |[],a,f,b=>by
  intro j o l r;rcases kS j a.length with h|h
  .exact b j o h l r
  .have:=f (j-a.length);rw[show a.length+(j-a.length)=j by omega,l]at this;simp at this
 |y::p,a,f,b=>by
  have m:ops[a.length]?=some y:=(by have:=f 0;simpa using this);refine xha X t p _ (λi=>?_) (λj o u l r=>?_)
  .have:=f (i+1);simp only[eA,dN,gY,jV]at this ⊢;rw[<-this];congr 1;omega
  .intro k d;simp only[eA,dN,gY]at u;rcases kS j a.length with h|h
   .rw[fU,zU h,<-fU]at d;exact b j o h l r k d
   .have e:j=a.length:=(by omega);subst e;rw[fU,V9 (bO _)]at d;simp only[LV,jU,Option.getD_some,mK]at d;obtain⟨e,x,d⟩:=d;rw[m]at l;cases l;have n:X e.on:=r _ (fF.2 ⟨e,x,rfl⟩);rcases dW.1 d with rfl|d
    .exact n
    .rcases kS e.on a.length with h2|h2
     .cases g:ops[e.on]? with
      |none=>have w:a.length<ops.size:=(VS.1 m).1;rw[Array.getElem?_eq_none_iff]at g;omega
      |some A=>exact b e.on A h2 g (t _ _ g n) k d
     .rw[fU,FW h2]at d;simp at d
def x8e(X:Nat->Prop)(a:∀i o,ops[i]?=some o->X i->∀k∈nN o,X k){j:Nat}{o:Oper}(b:ops[j]?=some o)(d:∀k∈nN o,X k):∀k∈(uV ops).getD j [],X k:=
 xha X a ops.toList [] (λi=>by simp) (λj o e=>by simp at e) j o b d
def xfz:∀(g:List Oper) (a:List (List Nat)) {j:Nat} {o:Oper},(∀i,ops[a.length+i]?=g[i]?)->(∀j o,j<a.length->ops[j]?=some o->∀k∈nN o,k∈a.getD j [])->ops[j]?=some o ->
    ∀k∈nN o,k∈(g.foldl (λa o=>a++[(o.after.toList.filter (Region.binds .any)).flatMap λe=>e.on::a.getD e.on []]) a).getD j []
 |[],a,j,o,d,b,f=>by
  rcases kS j a.length with h|h
  .exact b j o h f
  .have:=d (j-a.length);rw[show a.length+(j-a.length)=j by omega,f]at this;simp at this
 |r::g,a,j,o,d,b,f=>by
  have l:ops[a.length]?=some r:=(by have:=d 0;simpa using this);refine xfz g _ (λi=>?_) (λj o n f k m=>?_) f
  .have:=d (i+1);simp only[eA,dN,gY,jV]at this ⊢;rw[<-this];congr 1;omega
  .simp only[eA,dN,gY]at n;rcases kS j a.length with h|h
   .rw[fU,zU h,<-fU];exact b j o h f k m
   .have e:j=a.length:=(by omega);subst e;rw[l]at f;cases f;rw[fU,V9 (bO _)];simp only[LV,jU,Option.getD_some,mK];obtain⟨e,p,rfl⟩:=fF.1 m;exact⟨e,p,eP⟩
def x2r{j:Nat}{o:Oper}(a:ops[j]?=some o):∀k∈nN o,k∈(uV ops).getD j []:=
 xfz ops.toList [] (λi=>by simp) (λj o b=>by simp at b) a
end
section
variable{P:Program}{pol:Pol}{ops:Array Oper}
def bef(a:Array Oper)(j i:Nat):Bool:=((uV a).getD j []).contains i
def left(b:Array Oper)(a:Array Bool):List Nat:=(List.range b.size).filter λi=>!a.getD i true
def xpg{a:Array Bool}{i:Nat}(h:i∈Region.ready .any ops a):i∈left ops a/\∃o,ops[i]?=some o/\∀k∈nN o,a.getD k false=true:=by
 simp only[Region.ready,iX,cI]at h;obtain⟨g,j,b⟩:=h;refine⟨by simp only[left,iX];exact⟨g,j⟩,?_⟩;cases f:ops[i]? with
 |none=>simp[f]at b
 |some o=>refine⟨o,rfl,λk d=>?_⟩;simp only[f,Option.map_some,Option.getD_some]at b;simp only[nN,fF,iX]at d;obtain⟨e,⟨l,m⟩,rfl⟩:=d;have:=xl.1 b e (by simpa using l);simpa[m]using this
def xph{a:Array Bool}{i:Nat}{o:Oper}(b:i∈left ops a)(d:ops[i]?=some o)(f:∀k∈nN o,a.getD k false=true):i∈Region.ready .any ops a:=by
 simp only[left,iX]at b;simp only[Region.ready,iX,cI];refine⟨b.1,b.2,?_⟩;simp only[d,Option.map_some,Option.getD_some];rw[xl];intro e g;cases h:Region.binds .any e with
 |false=>rfl
 |true=>have:=f e.on (by simp only[nN,fF,iX];exact⟨e,⟨by simpa using g,h⟩,rfl⟩);simp[this]
def xe0(n:∀(j:Nat) (o:Oper),ops[j]?=some o->∀k∈nN o,k<j):∀(f t:Nat) (b:Array Bool),b.size=ops.size->(∀(i:Nat) (o:Oper),ops[i]?=some o->b.getD i false=true->∀k∈nN o,b.getD k false=true)->(left ops b).length<=f ->
    Legal (bef ops) (left ops b) (Region.linearise.go .any ops f t b [])
 |0,t,b,Z,r,R=>by have:left ops b=[]:=rM.1 (by omega);rw[this];simp only[Region.linearise.go,List.reverse_nil];exact .nil
 |f+1,t,b,Z,r,R=>by
  simp only[Region.linearise.go]
  change Legal (bef ops) (left ops b) (match (Region.ready .any ops b)[t % (Region.ready .any ops b).length]? with
   |some i=>Region.linearise.go .any ops f (t / (Region.ready .any ops b).length) (b.setIfInBounds i true) [i]
   |none=>[].reverse)
  cases N:(Region.ready .any ops b)[t % (Region.ready .any ops b).length]? with
  |none=>
   have y:Region.ready .any ops b=[]:=by
    cases hr:Region.ready .any ops b with
    |nil=>rfl
    |cons x xs=>rw[hr]at N;have C:t % (x::xs).length<(x::xs).length:=G7 _ (by simp);rw[eJ C]at N;cases N
   have K:left ops b=[]:=by
    cases K:left ops b with
    |nil=>rfl
    |cons m ms=>
     exfalso;have O:m∈left ops b:=(by rw[K];simp);have D:m<ops.size:=(by simp only[left,iX,iR]at O;exact O.1);have E:(left ops b).Pairwise (· < ·):=List.Pairwise.filter _ xh4;have:m∈Region.ready .any ops b:=xph O (iZ D) λk w=>by
      have hkm:=n m _ (iZ D) k w;cases J:b.getD k false with
      |true=>rfl
      |false=>
       exfalso;have F:k∈left ops b:=(by simp only[left,iX,iR];refine⟨by omega,?_⟩;rw[pW,iZ (by omega)]at J ⊢;simpa using J);rw[K]at F E;rcases dW.1 F with rfl|hk3
       .omega
       .have:=(vA.1 E).1 k hk3;omega
     rw[y]at this;simp at this
   rw[K];exact .nil
  |some i=>
   simp only
   rw[linearise_go_acc,List.reverse_singleton,List.singleton_append];obtain⟨P,o,Q,X⟩:=xpg (mJ N);have C:i<ops.size:=(VS.1 Q).1;obtain⟨A,B,l⟩:=List.append_of_mem P;have L:(left ops b).Nodup:=List.Nodup.sublist List.filter_sublist eu;have fK:∀(k:Nat) (d:Bool),(b.setIfInBounds i true).getD k d=if k=i then true else b.getD k d:=by
    intro k d;rw[pW,pW];split
    .rename_i e;subst e;rw[HF (by omega)];rfl
    .rename_i e;rw[tG (Ne.symm e)]
   have g:left ops (b.setIfInBounds i true)=A++B:=by
    have h1:left ops (b.setIfInBounds i true)=(left ops b).filter (λk=>k≠i):=by
     simp only[left,List.filter_filter];refine List.filter_congr λk _=>?_
     rw[fK];by_cases e:k=i<;>simp[e]
    rw[h1,l];rw[l]at L;rw[zS]at L;have hA:A.filter (λk=>k≠i)=A:=FX.2 λa u=>by have:=L.2.2 a u i (by simp);simpa using this
    have hB:B.filter (λk=>k≠i)=B:=FX.2 λa u=>by
     have:=(zR.1 L.2.1).1;have:a≠i:=λe=>this (e▸u)
     simpa using this
    rw[xA,List.filter_cons_of_neg (by simp),hA,hB]
   rw[l];refine .cons (λa u=>?_) ?_
   .have H:a∈left ops b:=(by rw[l];simp at u ⊢;rcases u with h|h<;>simp[h]);cases Y:bef ops i a with
    |false=>rfl
    |true=>exfalso;simp only[bef,ff]at Y;have:=x8e (ops:=ops) (λk=>b.getD k false=true) r Q X a Y;simp only[left,iX,iR]at H;rw[pW,iZ (by omega)]at this;have M:=H.2;rw[pW,iZ (by omega)]at M;simp at this M;rw[this]at M;cases M
   .rw[<-g];refine xe0 n f _ _ (by simpa using Z) (λk o' p w j W=>?_) (by rw[g];rw[l]at R;simp at R ⊢;omega);rw[fK]at w ⊢;split
    .rfl
    .split at w
     .rename_i e;subst e;rw[Q]at p;cases p;exact X j W
     .exact r k o' p w j W
def Legal.perm{b:Nat->Nat->Bool}{M L:List Nat}(h:Legal b M L):M.Perm L:=by
 induction h with
 |nil=>exact .nil
 |cons _ _ a=>exact(List.perm_middle).trans (a.cons _)
def xuv(C:P.follows .mixedOrders=true):FO P pol:=by
 intro A J c a s K E w m L M N O Q n p R t;have hd':∀j,j<a.size->late P a j j=true/\(∀k∈(uV a).getD j [],k<j)/\∀i,i<j->late P a i j=true/\(bef a j i=true\/pairOK pol c s.fc s.st.next a i j K.sl=true):=(by intro j g;have:=dJ.1 R j (iR.2 g);simp only[cI,dJ,iR,mR,lD]at this;exact⟨this.1.1,this.1.2,this.2⟩);have r:∀(j:Nat) (o:Oper),a[j]?=some o->∀k∈nN o,k<j:=λj o x k D=>(hd' j (VS.1 x).1).2.1 k (x2r x k D)
 have b:left a (Array.replicate a.size false)=List.range a.size:=by
  refine FX.2 λi e=>?_
  rw[pW,xjd,aF (iR.1 e)];rfl
 have f:∀i,(Array.replicate a.size false).getD i false=false:=λi=>by rw[pW,xjd];split<;>rfl
 have d:Legal (bef a) (List.range a.size) (Region.schedule (P.follows .mixedOrders) a t):=(by have:=xe0 r a.size t (Array.replicate a.size false) (by simp) (λi o _ h=>by rw[f]at h;cases h) (by rw[b];simp);rw[b]at this;simpa only[Region.schedule,C,NG,cM,Region.linearise]using this);refine⟨(d.perm.nodup_iff).1 eu,λi e=>iR.1 (d.perm.mem_iff.2 e),?_⟩;refine xo2 J d eu ⟨E,w,m,L,M,N,O,λid y F e i _=>by have:=Q id y F e;simp only at this;omega⟩ (bO _) rfl ⟨xh4,λi e=>iR.1 e,λi e j g l=>?_,λi e j g l H=>?_,λi _ o x=>?_⟩ n
 .rcases kS i j with h|h
  .exact((hd' j (iR.1 g)).2.2 i h).1
  .have:i=j:=(by omega);subst this;exact(hd' i (iR.1 e)).1
 .exact((hd' j (iR.1 g)).2.2 i l).2.resolve_left (by rw[H];simp)
 .simp only[yM,GA]at p;have u:o∈a.toList:=(by simpa using xh x);simpa using p o u
end
def x3l{P:Program}(p:P.follows .mixedOrders=true){pol:Pol}(t:G1 P pol){n:Nat}{f:FuncId}{d:List AV}{l:Array Value}{w:World}{r:AV}{j:St}(x:∀g,Ext (λb=>b<w.heap.size) w g->xD P g)(y:kG P f)(h:gH P pol n [] f d pL=some (r,j))(A:l.size=d.length)(C:∀(i:Nat) (a:AV) (v:Value),d[i]?=some a->l[i]?=some v->V (λb=>b<w.heap.size) w eta0 [] a v) :
    Calls P f l w λe g=>∃u,e=.returned u/\(∃(F:Nat->Prop) (η:Eta) (ζ:List Nat),V F g η ζ r u)/\Ext (λ_=>True) w g:=by
 obtain⟨_,E⟩:=xzv t (xuv (pol:=pol) p) n [] f d pL r j h (zN (λb=>b<w.heap.size) (λg=>Ext (λb=>b<w.heap.size) w g) w) w l (FF (λ_ h=>h) 0 λ_ h=>h) ⟨A,C⟩ (FG x);intro D;obtain⟨N,g,u,m,H,J⟩:=E D;obtain⟨o,K,L,M⟩:=m.elim (λh=>h.2) λh=>absurd y h.1
 exact⟨.returned u,g,o,⟨u,rfl,⟨_,_,_,H⟩,FH J.later⟩,K,L,M⟩
def x3k{P:Program}(o:P.follows .mixedOrders=true){pol:Pol}(p:G1 P pol){n:Nat}{f:FuncId}{d:List AV}{j:Array Value}{w:World}{x:Value}{l:St}(r:∀g,Ext (λb=>b<w.heap.size) w g->xD P g)(t:kG P f)(h:gH P pol n [] f d pL=some (.sc x,l))(y:j.size=d.length)(A:∀(i:Nat) (a:AV) (v:Value),d[i]?=some a->j[i]?=some v->V (λb=>b<w.heap.size) w eta0 [] a v) :
    Calls P f j w λe g=>e=.returned x/\Ext (λ_=>True) w g:=by
 refine Calls.mono (x3l o p r t h y A) λe g ⟨u,m,⟨F,η,ζ,C⟩,D⟩=>?_
 rw[kZ C]at m;exact⟨m,D⟩
end Go.Ix
