import Derived.Test.YtdfahbenacjgeaaIxC
import Derived.Orders
set_option linter.unusedSimpArgs false
set_option linter.unusedVariables false
namespace Go.Ix
section
variable{P:Program}{id0:Id}{o:Oper}{sl sl2:Nat->AV}{objs objs':Id->Option Ob}
theorem C5{l:List Operand}(h:∀x∈l,ev sl2 x=ev sl x):l.map (ev sl2)=l.map (ev sl):=xg4 h
theorem map_ev2{l:List (Nat×Operand)}(h:∀x∈l.map (·.2),ev sl2 x=ev sl x):(l.map λ(i,x)=>(i,ev sl2 x))=l.map λ(i,x)=>(i,ev sl x):=
 xg4 λp hp=>by have:=h p.2 (List.mem_map_of_mem hp);obtain⟨i,x⟩:=p;simp only at this ⊢;rw[this]
theorem x90(h:∀x∈o.op.operands.toList,ev sl2 x=ev sl x):qH P id0 o sl2 objs=qH P id0 o sl objs:=by
 unfold qH;cases ho:o.op with
 |build t ps=>simp only[ho,Op.operands]at h;simp only[map_ev2 h]
 |buildSlice t n ps=>simp only[ho,Op.operands]at h;simp only[map_ev2 h]
 |makeFunc fn first captured=>simp only[ho,Op.operands]at h;have:=C5 (l:=captured.toList) (λx hx=>h x (by simp at hx ⊢;exact .inr hx));cases fn<;>simp only[this]
 |call c=>simp only[ho,Op.operands]at h;have:=C5 (l:=c.args.toList) (λx hx=>h x (by simp[Call.operands]at hx ⊢;first|exact .inl hx|exact .inr hx|exact hx|(cases c.callee<;>simp_all)));cases c.callee<;>simp only[this]
 |slice t x lo hi mx=>
  simp only[ho,Op.operands]at h;have hx:=h x (by simp);cases mx with
  |some m=>cases lo<;>cases hi<;>simp_all
  |none=>cases lo<;>cases hi<;>simp_all
 |makeMap t r=>cases r<;>rfl
 |alloc t=>rfl
 |_=>simp only[ho,Op.operands]at h;simp at h;simp only[h]
def Foot(P:Program)(id0:Id)(o:Oper)(sl:Nat->AV)(objs objs':Id->Option Ob)(v:AV)(R W:List Id):Prop:=
 (∀id,id∉W->objs' id=objs id)/\∀objs2:Id->Option Ob,(∀id,id∈R\/id∈W->objs2 id=objs id)->∃objs2',qH P id0 o sl objs2=some (v,objs2')/\(∀id∈W,objs2' id=objs' id)/\∀id,id∉W->objs2' id=objs2 id
theorem Foot.pure{v:AV}{R W:List Id}(h:qH P id0 o sl objs=some (v,objs'))(hp:∀objs2,∃g:Option AV,qH P id0 o sl objs2=g.map (λv=>(v,objs2))/\qH P id0 o sl objs=g.map (λv=>(v,objs))):Foot P id0 o sl objs objs' v R W:=by
 have key:∀objs2,qH P id0 o sl objs2=some (v,objs2)/\objs'=objs:=by
  intro objs2;obtain⟨g,h1,h2⟩:=hp objs2;rw[h2]at h;cases g with
  |none=>simp at h
  |some x=>simp at h;rw[h1];simp[h.1,h.2]
 have he:=(key objs).2;subst he;exact⟨λ_ _=>rfl,λobjs2 h2=>⟨objs2,(key objs2).1,λid hid=>h2 id (.inr hid),λ_ _=>rfl⟩⟩
def blind:Op->Bool
 | .move _ | .assign _ | .pick .. | .binOp .. | .unOp .. | .convert .. | .sliceToArrayPointer .. | .fieldAddr .. | .field .. | .indexAddr .. | .index .. | .extract .. | .build .. | .nilCheck _ | .makeFunc ..=>true
 |_=>false
theorem txt_same{src dst:TypeId}{x:Operand}(ho:o.op=.convert src dst x)(hm:mapLen P o sl=false)(objs objs2:Id->Option Ob):vZ P objs src dst (ev sl x)=vZ P objs2 src dst (ev sl x):=by
 unfold vZ;split
 .rename_i el hs hd;have hr:isRf (ev sl x)=false:=(by simpa[mapLen,ho,hs,hd]using hm);have he:elems objs 1 (ev sl x)=elems objs2 1 (ev sl x):=by
   cases hx:ev sl x with
   |sref _ _ _ _ _ _=>rw[hx]at hr;cases hr
   |sc v=>cases v<;>first|rfl|(rename_i a n c;cases a<;>cases n<;>rfl)
   |_=>rfl
  rw[he]
 .rfl
theorem x91{v:AV}{R W:List Id}(hb:blind o.op=true)(hm:mapLen P o sl=false)(h:qH P id0 o sl objs=some (v,objs')):Foot P id0 o sl objs objs' v R W:=by
 refine .pure h λobjs2=>?_
 cases ho:o.op with
 |move x=>exact⟨some (ev sl x),by simp[qH,ho],by simp[qH,ho]⟩
 |assign x=>exact⟨some (ev sl x),by simp[qH,ho],by simp[qH,ho]⟩
 |convert s d x=>
  refine⟨(match vZ P objs s d (ev sl x)with|some b=>some (.sc (.string b))|none=>vS P s d (ev sl x)),?_,?_⟩
  .simp only[qH,ho,txt_same ho hm objs2 objs];cases vZ P objs s d (ev sl x)<;>rfl
  .simp only[qH,ho];cases vZ P objs s d (ev sl x)<;>rfl
 |_=>
  (try (simp[ho,blind]at hb;done)) <;>
  (refine⟨(qH P id0 o sl objs).map (·.1),?_,?_⟩<;>simp only[qH,ho]<;>(repeat' split)<;>first|rfl|simp_all [Option.map_map,Function.comp_def])
theorem Foot.mk'{v:AV}{R W:List Id}(h:qH P id0 o sl objs=some (v,objs'))(h1:∀id,id∉W->objs' id=objs id)(h2:∀objs2:Id->Option Ob,(∀id,id∈R\/id∈W->objs2 id=objs id)->qH P id0 o sl objs2=some (v,λid=>if id∈W then objs' id else objs2 id)):Foot P id0 o sl objs objs' v R W:=
 ⟨h1,λobjs2 ha=>⟨_,h2 objs2 ha,λid hid=>by simp[hid],λid hid=>by simp[hid]⟩⟩
theorem wD{id:Id}{x:Option Ob}{i:Id}(h:i∉[id]):qM objs id x i=objs i:=by simp at h;simp[qM,h]
theorem wE{objs2:Id->Option Ob}{id:Id}{x:Option Ob}:(λi=>if i∈[id]then qM objs id x i else objs2 i)=qM objs2 id x:=by funext i;simp only[qM,xf9];split<;>rfl
theorem o7{objs2:Id->Option Ob}{R W:List Id}(h:∀id,id∈R\/id∈W->objs2 id=objs id):(λi=>if i∈W then objs i else objs2 i)=objs2:=by
 funext i;split
 .rename_i hi;exact(h i (.inr hi)).symm
 .rfl
theorem C6{v:AV}(h:qH P id0 o sl objs=some (v,objs'))(hk:(match o.op with | .alloc _ | .box _ _ | .makeSlice .. | .makeMap .. | .buildSlice ..=>true|_=>false)=true):Foot P id0 o sl objs objs' v [] [id0]:=by
 cases ho:o.op with
 |alloc t=>
  simp only[qH,ho]at h;split at h
  .rename_i cs hz;split at h
   .rename_i e hb;cases h;exact .mk' (by simp[qH,ho,hz,hb]) (λ_ hi=>wD hi) λobjs2 ha=>by rw[wE];simp[qH,ho,hz,hb]
   .rename_i hb;cases h;exact .mk' (by simp[qH,ho,hz,hb]) (λ_ hi=>wD hi) λobjs2 ha=>by rw[wE];simp[qH,ho,hz,hb]
  .cases h
 |box t x=>
  simp only[qH,ho]at h;split at h
  .rename_i hz;cases h;exact .mk' (by simp only[qH,ho];rw[xc2 hz]) (λ_ hi=>wD hi) λobjs2 ha=>by rw[wE];simp only[qH,ho];rw[xc2 hz]
  .cases h
 |makeMap t r=>
  cases r with
  |some r=>simp[qH,ho]at h
  |none=>simp only[qH,ho]at h;cases h;exact .mk' (by simp[qH,ho]) (λ_ hi=>wD hi) λobjs2 ha=>by rw[wE];simp[qH,ho]
 |makeSlice t l c=>
  simp only[qH,ho]at h;split at h
  .split at h
   .split at h
    .cases h;exact .mk' (by simp_all [qH]) (λ_ hi=>wD hi) λobjs2 ha=>by rw[wE];simp_all [qH]
    .cases h
   .cases h
  .cases h
 |buildSlice t n ps=>
  simp only[qH,ho]at h;split at h
  .split at h
   .split at h
    .split at h
     .split at h
      .cases h
      .split at h
       .cases h;exact .mk' (by simp_all [qH]) (λ_ _=>rfl) λobjs2 ha=>by rw[o7 ha];simp_all [qH]
       .cases h;exact .mk' (by simp_all [qH]) (λ_ hi=>wD hi) λobjs2 ha=>by rw[wE];simp_all [qH]
     .cases h
    .cases h
   .cases h
  .cases h
 |_=>simp[ho]at hk
theorem xQ{v:AV}{R W:List Id}(h:qH P id0 o sl objs=some (v,objs'))(ht:qY id0 o sl=(some R,some W))(hm:mapLen P o sl=false)(hk:(match o.op with | .load .. | .lookup .. | .slice ..=>true | .call c=>(match c.callee with | .builtin .len | .builtin .min | .builtin .max | .builtin .cap | .builtin .real | .builtin .imag | .builtin .complex=>true|_=>false)|_=>false)=true):Foot P id0 o sl objs objs' v R W:=by
 have key:objs'=objs/\∀objs2:Id->Option Ob,(∀id,id∈R\/id∈W->objs2 id=objs id)->qH P id0 o sl objs2=some (v,objs2):=by
  cases ho:o.op with
  |load t a=>
   simp only[qY,ho]at ht;simp only[qH,ho]at h ⊢;split at h
   .rename_i g z hty;split at h
    .rename_i cs he;split at h
     .cases h
     .rename_i hn;simp only[xc5,xc3]at h;obtain⟨r,hr,rfl,rfl⟩:=h;exact⟨rfl,λobjs2 _=>by simp[hr,hn]⟩
    .rename_i id ver off he;simp only[he,xc3,xc4]at ht;obtain⟨rfl,rfl⟩:=ht;split at h
     .rename_i cs vv fr hob;split at h
      .rename_i hv;simp only[xc5,xc3]at h;obtain⟨r,hr,rfl,rfl⟩:=h;exact⟨rfl,λobjs2 ha=>by rw[ha id (.inl (by simp)),hob];simp[hv,hr]⟩
      .cases h
     .cases h
    .cases h
   .cases h
  |lookup t x ix ok=>
   simp only[qY,ho]at ht;simp only[qH,ho]at h ⊢;have hm:∀objs2:Id->Option Ob,(∀id,id∈R\/id∈W->objs2 id=objs id)->xH objs2 (ev sl x)=xH objs (ev sl x):=by
    intro objs2 ha;unfold xH;split
    .rename_i id he;simp only[he,xc3,xc4]at ht;obtain⟨rfl,rfl⟩:=ht;rw[ha id (.inl (by simp))]
    .rfl
    .rfl
   split at h
   .split at h
    .split at h
     .split at h
      .cases h;exact⟨rfl,λobjs2 ha=>by rw[hm objs2 ha];simp_all⟩
      .cases h
     .cases h
    .cases h
   .cases h
  |slice t x lo hi mx=>
   simp only[qY,ho]at ht;cases mx with
   |some m=>
    cases hi with
    |none=>simp[qH,ho]at h
    |some hi=>
    simp only[qH,ho]at h ⊢;split at h
    .split at h
     .simp only[xc5,xc3]at h;obtain⟨r,hr,rfl,rfl⟩:=h;exact⟨rfl,λobjs2 _=>by simp_all⟩
     .cases h
    .split at h
     .split at h
      .split at h
       .split at h
        .simp only[xc4,xc3]at h;obtain⟨rfl,rfl⟩:=h;exact⟨rfl,λobjs2 _=>by simp_all⟩
        .cases h
       .split at h
        .simp only[xc4,xc3]at h;obtain⟨rfl,rfl⟩:=h;exact⟨rfl,λobjs2 _=>by simp_all⟩
        .cases h
       .cases h
      .cases h
     .cases h
   |none=>
    simp only[qH,ho]at h ⊢;split at h
    .split at h
     .simp only[xc5,xc3]at h;obtain⟨r,hr,rfl,rfl⟩:=h;exact⟨rfl,λobjs2 _=>by simp_all⟩
     .cases h
    .split at h
     .split at h
      .split at h
       .split at h
        .split at h
         .simp only[xc4,xc3]at h;obtain⟨rfl,rfl⟩:=h;exact⟨rfl,λobjs2 _=>by simp_all⟩
         .cases h
        .cases h
       .split at h
        .split at h
         .simp only[xc4,xc3]at h;obtain⟨rfl,rfl⟩:=h;exact⟨rfl,λobjs2 _=>by simp_all⟩
         .cases h
        .cases h
       .cases h
      .cases h
     .split at h
      .split at h
       .rename_i id ver off he;simp only[he,xc3,xc4]at ht;obtain⟨rfl,rfl⟩:=ht;split at h
        .split at h
         .simp only[xc4,xc3]at h;obtain⟨rfl,rfl⟩:=h;refine⟨rfl,λobjs2 ha=>?_⟩;have hid:=ha id (.inl (by simp));simp_all<;>omega
         .cases h
        .cases h
       .cases h
      .cases h
     .cases h
  |call c=>
   simp only[ho]at hk;cases hc:c.callee with
   |builtin b=>
    have one:∀{g:Option Value} {r:AV×(Id->Option Ob)},(g.map λv=>(sE v,objs))=some r->r.2=objs/\∀objs2:Id->Option Ob,(g.map λv=>(sE v,objs2))=some (r.1,objs2):=by
     intro g r hg;cases g with
     |none=>simp at hg
     |some x=>simp at hg;subst hg;exact⟨rfl,λ_=>rfl⟩
    have vals:∀{g:Option AV},(g.map λv=>(v,objs))=some (v,objs')->objs'=objs/\∀objs2:Id->Option Ob,(g.map λv=>(v,objs2))=some (v,objs2):=by
     intro g hg;cases g with
     |none=>simp at hg
     |some x=>simp at hg;obtain⟨rfl,rfl⟩:=hg;exact⟨rfl,λ_=>rfl⟩
    have valsL:∀{k:List Value->Option Value},(match sO (c.args.toList.map (ev sl))with|some vs=>(k vs).map (λv=>(sE v,objs))|none=>none)=some (v,objs') ->
     objs'=objs/\∀objs2:Id->Option Ob,(match sO (c.args.toList.map (ev sl))with|some vs=>(k vs).map (λv=>(sE v,objs2))|none=>none)=some (v,objs2):=by
     intro k hk;split at hk
     .obtain⟨h1,h2⟩:=one hk;exact⟨h1,λobjs2=>h2 objs2⟩
     .cases hk
    cases b with
    |max=>simp only[qH,ho,hc,rY]at h ⊢;exact⟨(vals h).1,λobjs2 _=>(vals h).2 objs2⟩
    |min=>simp only[qH,ho,hc,rY]at h ⊢;exact⟨(vals h).1,λobjs2 _=>(vals h).2 objs2⟩
    |cap=>simp only[qH,ho,hc,rY]at h ⊢;exact⟨(vals h).1,λobjs2 _=>(vals h).2 objs2⟩
    |real=>simp only[qH,ho,hc,rY]at h ⊢;exact⟨(vals h).1,λobjs2 _=>(vals h).2 objs2⟩
    |imag=>simp only[qH,ho,hc,rY]at h ⊢;exact⟨(vals h).1,λobjs2 _=>(vals h).2 objs2⟩
    |complex=>simp only[qH,ho,hc,rY]at h ⊢;exact⟨(vals h).1,λobjs2 _=>(vals h).2 objs2⟩
    |len=>
     simp only[qH,ho,hc,rY]at h ⊢;split at h
     .split at h
      .split at h
       .simp only[xc4,xc3]at h;obtain⟨rfl,rfl⟩:=h;exact⟨rfl,λobjs2 _=>by simp_all⟩
       .cases h
      .cases h
     .split at h
      .split at h
       .simp only[xc4,xc3]at h;obtain⟨rfl,rfl⟩:=h;exact⟨rfl,λobjs2 _=>by simp_all⟩
       .cases h
      .cases h
     .split at h
      .split at h
       .rename_i hu;exact absurd (show mapLen P o sl=true by simp only[mapLen,ho,hc,hu]) (by rw[hm];simp)
       .cases h
      .cases h
     .obtain⟨g1,g2⟩:=valsL (k:=λvs=>qR P (Builtin.len_ c.argTypes o.type vs.toArray)) h;exact⟨g1,λobjs2 _=>g2 objs2⟩
    |_=>simp[hc]at hk
   |_=>simp[hc]at hk
  |_=>simp[ho]at hk
 refine .mk' h (λ_ _=>by rw[key.1]) λobjs2 ha=>?_
 rw[key.1,o7 ha];exact key.2 objs2 ha
theorem x5c{objs2:Id->Option Ob}{z:Nat}{x:AV}(h:∀id ver off n z' f,x=.sref id ver off n z' f->objs2 id=objs id):elems objs2 z x=elems objs z x:=by
 unfold elems;split
 .rfl
 .rfl
 .rename_i id ver off n z' f;rw[h id ver off n z' f rfl]
 .rfl
theorem Q1{v:AV}{R W:List Id}(h:qH P id0 o sl objs=some (v,objs'))(ht:qY id0 o sl=(some R,some W))(hk:(match o.op with | .store ..=>true | .call c=>(match c.callee with | .builtin .append | .builtin .copy=>true|_=>false)|_=>false)=true):Foot P id0 o sl objs objs' v R W:=by
 cases ho:o.op with
 |store t a x=>
  simp only[qY,ho]at ht;have h0:=h;simp only[qH,ho]at h;split at h
  .split at h
   .rename_i id ver off he;simp only[he,xc3,xc4]at ht;obtain⟨rfl,rfl⟩:=ht;split at h
    .split at h
     .cases h;refine .mk' h0 (λ_ hi=>wD hi) λobjs2 ha=>?_
      have hid:=ha id (.inr (by simp));rw[wE];simp only[qH,ho];simp_all
     .cases h
    .cases h
   .cases h
  .cases h
 |call c=>
  simp only[ho]at hk;cases hc:c.callee with
  |builtin b=>
   cases b with
   |append=>
    obtain⟨y,x,hl⟩:∃y x,c.args.toList=[y,x]:=by
     simp only[qH,ho,hc,rY,yI]at h;split at h
     .rename_i e1 e2;match hl:c.args.toList,e2 with
      |[y,x],_=>exact⟨y,x,rfl⟩
     .cases h
    simp only[qY,ho,hc,hl,xc3]at ht;obtain⟨hR,hW⟩:=ht;have he:∀objs2:Id->Option Ob,(∀id,id∈R\/id∈W->objs2 id=objs id)->∀z,elems objs2 z (ev sl x)=elems objs z (ev sl x):=by
     intro objs2 ha z;refine x5c λid ver off n z' f hx=>ha id (.inl ?_)
     rw[hx]at hR;simp at hR;simp[<-hR]
    have h0:=h;simp only[qH,ho,hc,rY,yI,hl,xcj,xcy]at h;split at h
    .rename_i t t' s' x' e1 e2;simp only[xg5,and_true]at e2;obtain⟨rfl,rfl⟩:=e2;split at h
     .rename_i el d hu hud;split at h
      .rename_i i zc hi hz;split at h
       .rename_i hcond;have go:∀{src:Option (List AV×Nat)} {s:AV},(match s with | .sref id _ _ _ _ true=>some [id] | .sref id _ _ _ _ false=>some [id,id0] | .slit .. | .sc _=>some [id0]|_=>none)=some W ->
         (match src with
          |some (src,m)=>match s with
           | .sc (.slice none 0 0)=>if m=0 then some (s,objs)else if qW m i.bytes then some (AV.sref id0 0 0 m i.size true,qM objs id0 (some (.row src 0 false)))else none
           | .slit cs n true=>if n*i.size<=cs.length then(if m=0 then some (s,objs)else if qW (n+m) i.bytes then some (.sref id0 0 0 (n+m) i.size true,qM objs id0 (some (.row (cs.take (n*i.size)++src) 0 false)))else none)else none
           | .sref id ver off n z true=>match objs id with
             |some (.row cs v false)=>if v=ver/\z=i.size/\off+n*z<=cs.length/\qW (n+m) i.bytes then
              if m=0 then some (s,objs)
              else if off+(n+m)*z<=cs.length then some (.sref id ver off (n+m) z true,qM objs id (some (.row (rK cs (off+n*z) src) v false)))
              else some (.sref id (ver+1) 0 (n+m) z true,qM objs id (some (.row ((cs.drop off).take (n*z)++src) (v+1) false)))
              else none
             |_=>none
           | .sref id ver off n z false=>match objs id with
             |some (.row cs v _)=>if v=ver/\z=i.size/\off+n*z<=cs.length/\qW (n+m) i.bytes then
              if m=0 then some (s,objs)
              else some (.sref id0 0 0 (n+m) i.size true,qM objs id0 (some (.row ((cs.drop off).take (n*z)++src) 0 false)))
              else none
             |_=>none
           |_=>none
          |none=>none)=some (v,objs') ->
         (∀id,id∉W->objs' id=objs id)/\∀objs2:Id->Option Ob,(∀id,id∈R\/id∈W->objs2 id=objs id) ->
         (match src with
          |some (src,m)=>match s with
           | .sc (.slice none 0 0)=>if m=0 then some (s,objs2)else if qW m i.bytes then some (AV.sref id0 0 0 m i.size true,qM objs2 id0 (some (.row src 0 false)))else none
           | .slit cs n true=>if n*i.size<=cs.length then(if m=0 then some (s,objs2)else if qW (n+m) i.bytes then some (.sref id0 0 0 (n+m) i.size true,qM objs2 id0 (some (.row (cs.take (n*i.size)++src) 0 false)))else none)else none
           | .sref id ver off n z true=>match objs2 id with
             |some (.row cs v false)=>if v=ver/\z=i.size/\off+n*z<=cs.length/\qW (n+m) i.bytes then
              if m=0 then some (s,objs2)
              else if off+(n+m)*z<=cs.length then some (.sref id ver off (n+m) z true,qM objs2 id (some (.row (rK cs (off+n*z) src) v false)))
              else some (.sref id (ver+1) 0 (n+m) z true,qM objs2 id (some (.row ((cs.drop off).take (n*z)++src) (v+1) false)))
              else none
             |_=>none
           | .sref id ver off n z false=>match objs2 id with
             |some (.row cs v _)=>if v=ver/\z=i.size/\off+n*z<=cs.length/\qW (n+m) i.bytes then
              if m=0 then some (s,objs2)
              else some (.sref id0 0 0 (n+m) i.size true,qM objs2 id0 (some (.row ((cs.drop off).take (n*z)++src) 0 false)))
              else none
             |_=>none
           |_=>none
          |none=>none)=some (v,λid=>if id∈W then objs' id else objs2 id):=by
         intro src s hW h;split at h
         .split at h
          .simp only[xc4]at hW;subst hW;split at h
           .cases h;exact⟨λ_ _=>rfl,λobjs2 ha=>by rw[o7 ha];simp_all⟩
           .split at h
            .cases h;exact⟨λ_ hi=>wD hi,λobjs2 ha=>by rw[wE];simp_all⟩
            .cases h
          .simp only[xc4]at hW;subst hW;split at h
           .split at h
            .cases h;exact⟨λ_ _=>rfl,λobjs2 ha=>by rw[o7 ha];simp_all⟩
            .split at h
             .cases h;exact⟨λ_ hi=>wD hi,λobjs2 ha=>by rw[wE];simp_all⟩
             .cases h
           .cases h
          .simp only[xc4]at hW;subst hW;rename_i id ver off n z;split at h
           .rename_i cs vv hob;split at h
            .rename_i hc1;split at h
             .rename_i hm;cases h;exact⟨λ_ _=>rfl,λobjs2 ha=>by rw[o7 ha];have hid:=ha id (.inr (by simp));simp only[hid,hob];rw[xc2 hc1,xc2 hm]⟩
             .rename_i hm;split at h
              .rename_i hr;cases h;exact⟨λ_ hi=>wD hi,λobjs2 ha=>by rw[wE];have hid:=ha id (.inr (by simp));simp only[hid,hob];rw[xc2 hc1,xc1 hm,xc2 hr]⟩
              .rename_i hr;cases h;exact⟨λ_ hi=>wD hi,λobjs2 ha=>by rw[wE];have hid:=ha id (.inr (by simp));simp only[hid,hob];rw[xc2 hc1,xc1 hm,xc1 hr]⟩
            .cases h
           .cases h
          .simp only[xc4]at hW;subst hW;rename_i id ver off n z;split at h
           .rename_i cs vv fr hob;split at h
            .rename_i hc1;split at h
             .rename_i hm;cases h;exact⟨λ_ _=>rfl,λobjs2 ha=>by rw[o7 ha];have hid:=ha id (.inr (by simp));simp only[hid,hob];rw[xc2 hc1,xc2 hm]⟩
             .rename_i hm;cases h;refine⟨λj hi=>?_,λobjs2 ha=>?_⟩
              .unfold qM;rw[xc1 (λe=>hi (by simp[e]))]
              .have hid:=ha id (.inr (by simp));simp only[hid,hob];rw[xc2 hc1,xc1 hm];congr 2;funext j;unfold qM;by_cases hj:j=id0
               .subst hj;simp
               .by_cases hj2:j=id
                .subst hj2;simp[hj,hid,hob]
                .simp[hj,hj2]
            .cases h
           .cases h
          .cases h
         .cases h
        obtain⟨g1,g2⟩:=go hW h;refine .mk' h0 g1 λobjs2 ha=>?_
        have:=g2 objs2 ha;simp only[qH,ho,hc,rY,yI,hl,xcj,xcy,e1,hu,hud,hi,hz,he objs2 ha];rw[xc2 hcond];exact this
       .cases h
      .cases h
     .cases h
    .cases h
   |copy=>
    obtain⟨y,x,hl⟩:∃y x,c.args.toList=[y,x]:=by
     simp only[qH,ho,hc,rY,zI]at h;split at h
     .rename_i e1 e2;match hl:c.args.toList,e2 with
      |[y,x],_=>exact⟨y,x,rfl⟩
     .cases h
    simp only[qY,ho,hc,hl,xc3]at ht;obtain⟨hR,hW⟩:=ht;have he:∀objs2:Id->Option Ob,(∀id,id∈R\/id∈W->objs2 id=objs id)->∀z,elems objs2 z (ev sl x)=elems objs z (ev sl x):=by
     intro objs2 ha z;refine x5c λid ver off n z' f hx=>ha id (.inl ?_)
     rw[hx]at hR;simp at hR;simp[<-hR]
    have h0:=h;simp only[qH,ho,hc,rY,zI,hl,xcj,xcy]at h;split at h
    .rename_i t ts s' x' e1 e2;simp only[xg5,and_true]at e2;obtain⟨rfl,rfl⟩:=e2;split at h
     .rename_i el hu;split at h
      .rename_i i hi;split at h
       .rename_i src m hsrc;split at h
        .rename_i id ver off n z f hs;rw[hs]at hW;simp only[xc4]at hW;subst hW;split at h
         .rename_i cs vv hob;split at h
          .rename_i hcond;cases h;refine .mk' h0 (λ_ hi=>wD hi) λobjs2 ha=>?_
           have hid:=ha id (.inr (by simp));rw[wE];simp only[qH,ho,hc,rY,zI,hl,xcj,xcy,e1,hu,hi,he objs2 ha,hsrc,hs,hid,hob];rw[xc2 hcond]
          .cases h
         .cases h
        .rename_i hs;rw[hs]at hW;simp only[xc4]at hW;subst hW;cases h;refine .mk' h0 (λ_ _=>rfl) λobjs2 ha=>?_
         rw[o7 ha];simp only[qH,ho,hc,rY,zI,hl,xcj,xcy,e1,hu,hi,he objs2 ha,hsrc,hs]
        .cases h
       .cases h
      .cases h
     .cases h
    .cases h
   |_=>simp[hc]at hk
  |_=>simp[hc]at hk
 |_=>simp[ho]at hk
theorem x5d{v:AV}{R W:List Id}(h:qH P id0 o sl objs=some (v,objs'))(ht:qY id0 o sl=(some R,some W))(hm:mapLen P o sl=false):Foot P id0 o sl objs objs' v R W:=by
 cases ho:o.op with
 |alloc _=>have:=ht;simp only[qY,ho,xc3,xc4]at this;obtain⟨rfl,rfl⟩:=this;exact C6 h (by rw[ho])
 |box _ _=>have:=ht;simp only[qY,ho,xc3,xc4]at this;obtain⟨rfl,rfl⟩:=this;exact C6 h (by rw[ho])
 |makeSlice _ _ _=>have:=ht;simp only[qY,ho,xc3,xc4]at this;obtain⟨rfl,rfl⟩:=this;exact C6 h (by rw[ho])
 |makeMap _ _=>have:=ht;simp only[qY,ho,xc3,xc4]at this;obtain⟨rfl,rfl⟩:=this;exact C6 h (by rw[ho])
 |buildSlice _ _ _=>have:=ht;simp only[qY,ho,xc3,xc4]at this;obtain⟨rfl,rfl⟩:=this;exact C6 h (by rw[ho])
 |load _ _=>exact xQ h ht hm (by rw[ho])
 |lookup _ _ _ _=>exact xQ h ht hm (by rw[ho])
 |slice _ _ _ _ _=>exact xQ h ht hm (by rw[ho])
 |store _ _ _=>exact Q1 h ht (by rw[ho])
 |call c=>
  cases hc:c.callee with
  |builtin b=>
   cases b with
   |append=>exact Q1 h ht (by rw[ho];simp only[hc])
   |copy=>exact Q1 h ht (by rw[ho];simp only[hc])
   |len=>exact xQ h ht hm (by rw[ho];simp only[hc])
   |cap=>exact xQ h ht hm (by rw[ho];simp only[hc])
   |real=>exact xQ h ht hm (by rw[ho];simp only[hc])
   |imag=>exact xQ h ht hm (by rw[ho];simp only[hc])
   |complex=>exact xQ h ht hm (by rw[ho];simp only[hc])
   |min=>exact xQ h ht hm (by rw[ho];simp only[hc])
   |max=>exact xQ h ht hm (by rw[ho];simp only[hc])
   |_=>simp[qY,ho,hc]at ht
  |_=>simp[qY,ho,hc]at ht
 |_=>first|exact x91 (by rw[ho];rfl) hm h|(simp[qY,ho]at ht;done)
end
section
variable{P:Program}{pol:Pol}{call:Hs->FuncId->List AV->St->Option (AV×St)}{c:Ctx}{ops:Array Oper}
noncomputable def rD(P:Program)(pol:Pol)(call:Hs->FuncId->List AV->St->Option (AV×St))(c:Ctx)(ops:Array Oper)(i fc:Nat)(o:Oper)(sl:Nat->AV)(st:St):Option (AV×St):=
 if vE ops o sl then
  match o.op with
  | .call {callee:=.value fv,args,.. }=>tZ call c.u fc c.hs (nm (pol c.f (o.dst.getD 0))) (ev sl fv) (args.toList.map (ev sl)) st
  | .call {callee:=.invoke rv name,args,.. }=>(y6 P (ev sl rv) name).bind λp=>rZ call c.hs (nm (pol c.f (o.dst.getD 0))) (.clo p.1 []) (p.2::args.toList.map (ev sl)) st
  |_=>(qH P (c.u,fc+i,o.dst.getD 0) o sl st.objs).map λp=>(p.1,{st with objs:=p.2})
 else some (.sc undef,st)
theorem C7{i:Nat}{o:Oper}{s:S}(ho:ops[i]?=some o):tB P pol call c ops i s=(rD P pol call c ops i s.fc o s.sl s.st).bind λp=>put c o.dst p.1 {s with st:=p.2}:=by
 unfold tB rD;simp only[ho];split
 .split
  .rename_i fv args ats hop;simp only[hop];cases tZ call c.u s.fc c.hs (nm (pol c.f (o.dst.getD 0))) (ev s.sl fv) (args.toList.map (ev s.sl)) s.st<;>rfl
  .rename_i rv name args ats hop;simp only[hop];cases hm:y6 P (ev s.sl rv) name with
   |none=>rfl
   |some p=>simp only[xeu];cases rZ call c.hs (nm (pol c.f (o.dst.getD 0))) (.clo p.1 []) (p.2::args.toList.map (ev s.sl)) s.st<;>rfl
  .rename_i hn hn2;split
   .rename_i v objs' he;split
    .rename_i fv args ats hop;exact absurd hop (hn fv args ats)
    .rename_i rv name args ats hop;exact absurd hop (hn2 rv name args ats)
    .simp[he]
   .rename_i he;split
    .rename_i fv args ats hop;exact absurd hop (hn fv args ats)
    .rename_i rv name args ats hop;exact absurd hop (hn2 rv name args ats)
    .simp[he]
 .rfl
def zX(ops:Array Oper)(o:Oper)(sl sl2:Nat->AV):Prop:=∀t∈o.looksAt ops,sl2 t=sl t
theorem z0{o:Oper}{sl sl2:Nat->AV}(h:zX ops o sl sl2):∀x∈o.op.operands.toList,ev sl2 x=ev sl x:=by
 intro x hx;cases x with
 |tmp t=>exact h t (by simp only[Oper.looksAt,xd0,List.mem_filterMap];exact .inl ⟨_,hx,rfl⟩)
 |_=>rfl
theorem x92{o:Oper}{sl sl2:Nat->AV}(h:zX ops o sl sl2):vE ops o sl2=vE ops o sl:=by
 unfold vE;cases hg:o.guard with
 |none=>rfl
 |some g=>
  obtain⟨j,want⟩:=g;simp only
  cases hj:(ops[j]?).bind (·.dst)with
  |none=>rfl
  |some t=>
   simp only
   rw[h t (by simp[Oper.looksAt,hg,hj])]
theorem x5e{i fc:Nat}{o:Oper}{sl sl2:Nat->AV}{st:St}(h:zX ops o sl sl2):rD P pol call c ops i fc o sl2 st=rD P pol call c ops i fc o sl st:=by
 unfold rD;rw[x92 h];split
 .split
  .rename_i fv args ats hop;have he:=z0 h;simp only[hop,Op.operands,Call.operands]at he;rw[he fv (by simp),C5 (λx hx=>he x (by simp;right;simpa using hx))]
  .rename_i rv name args ats hop;have he:=z0 h;simp only[hop,Op.operands,Call.operands]at he;rw[he rv (by simp),C5 (λx hx=>he x (by simp;right;simpa using hx))]
  .rw[x90 (z0 h)]
 .rfl
theorem x5f{id0:Id}{o:Oper}{sl sl2:Nat->AV}(h:zX ops o sl sl2):qY id0 o sl2=qY id0 o sl:=by
 have he:=z0 h;unfold qY;cases ho:o.op with
 |call cl=>
  simp only[ho,Op.operands,Call.operands]at he;cases hc:cl.callee with
  |builtin b=>
   have ha:∀x∈cl.args.toList,ev sl2 x=ev sl x:=λx hx=>he x (by simp;right;simpa using hx)
   simp only[hc];match hl:cl.args.toList with
   |[]=>rfl
   |[x]=>rfl
   |[x,y]=>rw[hl]at ha;simp only[ha x (by simp),ha y (by simp)]
   |_::_::_::_=>rfl
  |_=>simp only[hc]
 |_=>simp only[ho,Op.operands]at he;simp at he;simp only[he]
theorem x5g{m:Nat}{o:Oper}{sl sl2:Nat->AV}(h:zX ops o sl sl2):sI m o sl2=sI m o sl:=by
 have he:=z0 h;unfold sI;cases ho:o.op with
 |call cl=>
  simp only[ho,Op.operands,Call.operands]at he;cases hc:cl.callee with
  |value fv=>simp only[hc]at he ⊢;rw[he fv (by simp),C5 (λx hx=>he x (by simp;right;simpa using hx))]
  |_=>simp only[hc]
 |_=>simp only[ho]
theorem o8{i fc:Nat}{o:Oper}{sl:Nat->AV}{st st':St}{v:AV}{R W:List Id}(hn:rN o=false)(h:rD P pol call c ops i fc o sl st=some (v,st'))(ht:qY (c.u,fc+i,o.dst.getD 0) o sl=(some R,some W))(hm:mapLen P o sl=false) :
 st'.next=st.next/\(∀id,id∉W->st'.objs id=st.objs id)/\∀st2:St,(∀id,id∈R\/id∈W->st2.objs id=st.objs id)->∃st2',rD P pol call c ops i fc o sl st2=some (v,st2')/\st2'.next=st2.next/\(∀id∈W,st2'.objs id=st'.objs id)/\∀id,id∉W->st2'.objs id=st2.objs id:=by
 unfold rD at h ⊢;split at h
 .rename_i hw;split at h
  .rename_i fv args ats hop;simp[rN,hop]at hn
  .rename_i rv name args ats hop;simp[mapLen,hop]at hm
  .rename_i hnc hnc2;simp only[xc5,xc3]at h;obtain⟨p,hp,rfl,rfl⟩:=h;obtain⟨f1,f2⟩:=x5d (v:=p.1) (objs':=p.2) hp ht hm;refine⟨rfl,f1,λst2 ha=>?_⟩;obtain⟨objs2',g1,g2,g3⟩:=f2 st2.objs ha;refine⟨{st2 with objs:=objs2' },?_,rfl,g2,g3⟩;rw[xc2 hw,g1];rfl
 .rename_i hw;cases h;exact⟨rfl,λ_ _=>rfl,λst2 ha=>⟨st2,by rw[xc1 hw],rfl,λid hid=>ha id (.inr hid),λ_ _=>rfl⟩⟩
theorem St.ext'{a b:St}(h:∀id,a.objs id=b.objs id)(h':a.next=b.next):a=b:=by cases a;cases b;simp at h';subst h';congr;funext i;exact h i
end
theorem o9{α β:Type}{f g:α->Option β}:∀{l:List α},(∀a∈l,f a=g a)->l.mapM f=l.mapM g
 |[],_=>rfl
 |a::l,h=>by rw[xcx,xcx,h a (by simp),o9 λb hb=>h b (xc9 _ hb)]
section
variable{objs objs2:Id->Option Ob}
theorem flat_frz{k:Nat}{a:AV}(h:(match a with | .sc _ | .slit ..=>true|_=>false)=true):frz objs (k+1) a=frz objs2 (k+1) a/\reach objs (k+1) a=[]:=by cases a<;>simp at h<;>exact⟨by simp[frz],by simp[reach]⟩
theorem x5h{k:Nat}{a:AV}(h:clean1 a=true):frz objs (k+2) a=frz objs2 (k+2) a/\reach objs (k+2) a=[]:=by
 cases a with
 |sc _=>exact⟨by simp[frz],by simp[reach]⟩
 |slit _ _ _=>exact⟨by simp[frz],by simp[reach]⟩
 |plit _=>exact⟨by simp[frz],by simp[reach]⟩
 |un _=>exact⟨by simp[frz],by simp[reach]⟩
 |clo f cs=>
  simp only[clean1]at h;have hc:=λx hx=>flat_frz (objs:=objs) (objs2:=objs2) (k:=k) (xc8.1 h x hx)
  refine⟨?_,?_⟩
  .show(cs.mapM (frz objs (k+1))).map (AV.clo f)=(cs.mapM (frz objs2 (k+1))).map (AV.clo f);rw[o9 λx hx=>(hc x hx).1]
  .show cs.flatMap (reach objs (k+1))=[];rw[xeg];exact λx hx=>(hc x hx).2
 |_=>simp[clean1]at h
theorem x5i{k:Nat}{a:AV}(h:clean a=true):frz objs (k+3) a=frz objs2 (k+3) a/\reach objs (k+3) a=[]:=by
 cases a with
 |agg cs=>
  simp only[clean]at h;have hc:=λx hx=>x5h (objs:=objs) (objs2:=objs2) (k:=k) (xc8.1 h x hx)
  refine⟨?_,?_⟩
  .show(cs.mapM (frz objs (k+2))).map AV.agg=(cs.mapM (frz objs2 (k+2))).map AV.agg;rw[o9 λx hx=>(hc x hx).1]
  .show cs.flatMap (reach objs (k+2))=[];rw[xeg];exact λx hx=>(hc x hx).2
 |sc _=>exact⟨by simp[frz],by simp[reach]⟩
 |slit _ _ _=>exact⟨by simp[frz],by simp[reach]⟩
 |plit _=>exact⟨by simp[frz],by simp[reach]⟩
 |un _=>exact⟨by simp[frz],by simp[reach]⟩
 |clo f cs=>exact x5h (k:=k+1) h
 |_=>simp[clean,clean1]at h
theorem x5j{l:List AV}(h:l.all clean=true):l.mapM (frz objs qN)=l.mapM (frz objs2 qN)/\l.flatMap (reach objs qN)=[]:=
 ⟨o9 λx hx=>(x5i (k:=3) (xc8.1 h x hx)).1,by
  simp only[xeg]
  exact λx hx=>(x5i (objs:=objs) (objs2:=objs) (k:=3) (xc8.1 h x hx)).2⟩
end
section
variable{P:Program}{pol:Pol}{call:Hs->FuncId->List AV->St->Option (AV×St)}{c:Ctx}{ops:Array Oper}
theorem x5k{i fc:Nat}{o:Oper}{sl:Nat->AV}{st st':St}{v:AV}(hm:sI (nm (pol c.f (o.dst.getD 0))) o sl≠0)(h:rD P pol call c ops i fc o sl st=some (v,st')) :
 (∀id:Id,id.1<st.next->st'.objs id=st.objs id)/\(sI (nm (pol c.f (o.dst.getD 0))) o sl=2->∀st2:St,st2.next=st.next->∃st2',rD P pol call c ops i fc o sl st2=some (v,st2')/\st2'.next=st'.next /\
  (∀id:Id,id.1<st.next->st2'.objs id=st2.objs id)/\∀id:Id,st.next<=id.1->st2.objs id=st.objs id->st2'.objs id=st'.objs id):=by
 cases ho:o.op with
 |call cl=>
  cases hc:cl.callee with
  |value fv=>
   cases hf:ev sl fv with
   |clo g caps=>
    simp only[sI,ho,hc,hf]at hm ⊢;unfold rD at h ⊢;split at h
    .rename_i hw;obtain⟨callee,args,ats⟩:=cl;simp only at hc;subst hc;have n9:nm (pol c.f (o.dst.getD 0))≠9:=λe=>by simp[e]at hm
     simp only[ho,hf,tZ,xc1 n9,rZ]at h ⊢;split at h
     .rename_i hmode;simp only[hmode]at hm ⊢;simp only[show ¬((0:Nat)=3\/(0:Nat)=4) by omega,xck]at hm ⊢;split at hm
      .rename_i hcl;rw[xc2 hcl];have hca:=hcl.2;have hsh:∀st:St,({st with objs:=shut ((args.toList.map (ev sl)++caps).flatMap (reach st.objs qN)) st.objs}:St)=st:=(by intro st;rw[(x5j (objs:=st.objs) (objs2:=st.objs) hca).2];exact St.ext' (λid=>by simp[shut]) rfl);split at h
       .rename_i l hl;split at h
        .rename_i r0 stc hcall;simp only[xc5,xc3]at h;obtain⟨r',hr',rfl,rfl⟩:=h;rw[hsh];refine⟨λ_ _=>rfl,λ_ st2 hn=>⟨st2,?_,hn,λ_ _=>rfl,λ_ _ e=>e⟩⟩;rw[xc2 hw,(x5j (objs:=st2.objs) (objs2:=st.objs) hca).1,hl];simp only[hcall,hr',Option.map_some];rw[hsh]
        .cases h
       .cases h
      .exact absurd rfl hm
     .rename_i hmode;simp only[hmode]at hm ⊢;split at h
      .split at h
       .split at h
        .cases h;exact⟨λ_ _=>rfl,λe=>by simp at e⟩
        .cases h
       .cases h
      .cases h
     .rename_i hmode;simp only[hmode]at hm ⊢;split at h
      .split at h
       .split at h
        .rename_i hp;cases h;refine⟨λid hid=>?_,λe=>by simp at e⟩;simp only
         split
         .rename_i hr;simp only[xc6]at hp;have:=xc8.1 hp.2 id hr;simp only[xc6,xer]at this;omega
         .rfl
        .cases h
       .cases h
      .cases h
     .rename_i hmode;simp only[hmode]at hm ⊢;simp only[show ¬((1:Nat)=3\/(1:Nat)=4) by omega,xck]at hm ⊢;split at hm
      .rename_i hcl;rw[xc2 hcl];have hca:=hcl.2;rw[xc2 hca]at h;split at h
       .rename_i r0 stc hcall;cases h;refine⟨λid hid=>?_,λ_ st2 hn=>⟨{objs:=λi=>if st.next<=i.1 then stc.objs i else st2.objs i,next:=stc.next},?_,rfl,λid hid=>?_,λid hid _=>?_⟩⟩
        .simp only;rw[xc1 (by omega)]
        .rw[xc2 hw,xc2 hca,hn,hcall]
        .simp only;rw[xc1 (by omega)]
        .simp only;rw[xc2 (by omega),xc2 (by omega)]
       .cases h
      .exact absurd rfl hm
     .rename_i n0 n3 n4 n1;exfalso;split at hm
      .rename_i e;rcases e with e|e
       .exact n3 e
       .exact n4 e
      .split at hm
       .rename_i e;have:=e.1;rcases xcu (nm (pol c.f (o.dst.getD 0))) 1 with h'|h'
        .exact n0 (by omega)
        .exact n1 (by omega)
       .exact absurd rfl hm
    .rename_i hw;cases h;exact⟨λ_ _=>rfl,λ_ st2 hn=>⟨st2,by rw[xc1 hw],hn,λ_ _=>rfl,λ_ _ e=>e⟩⟩
   |_=>simp[sI,ho,hc,hf]at hm
  |_=>simp[sI,ho,hc]at hm
 |_=>simp[sI,ho]at hm
end
theorem C8{a b:List Id}(h:vU a b=true):∀i∈a,i∉b:=λi hi hb=>by have:=xc8.1 h i hi;simp at this;exact this hb
section
variable{P:Program}{pol:Pol}{call:Hs->FuncId->List AV->St->Option (AV×St)}{c:Ctx}{ops:Array Oper}
theorem swap_ops{i j fc:Nat}{x y:Oper}{sl:Nat->AV}{st st1 st2:St}{v u:AV}(hmx:mapLen P x sl=false)(hmy:mapLen P y sl=false)(hnx:rN x=false)(hny:rN y=false)(hx:rD P pol call c ops i fc x sl st=some (v,st1))(hy:rD P pol call c ops j fc y sl st1=some (u,st2))(ha:rB (qY (c.u,fc+i,x.dst.getD 0) x sl) (qY (c.u,fc+j,y.dst.getD 0) y sl)=true) :
 ∃st1',rD P pol call c ops j fc y sl st=some (u,st1')/\rD P pol call c ops i fc x sl st1'=some (v,st2):=by
 have caseX:qY (c.u,fc+i,x.dst.getD 0) x sl=(some [],some [])->∃st1',rD P pol call c ops j fc y sl st=some (u,st1')/\rD P pol call c ops i fc x sl st1'=some (v,st2):=(by intro ht;obtain⟨f1,f2,f3⟩:=o8 hnx hx ht hmx;have:st1=st:=St.ext' (λid=>f2 id (by simp)) f1;subst this;obtain⟨st2',g1,g2,_,g4⟩:=f3 st2 (by simp);have:st2'=st2:=St.ext' (λid=>g4 id (by simp)) g2;subst this;exact⟨st2',hy,g1⟩);have caseY:qY (c.u,fc+j,y.dst.getD 0) y sl=(some [],some [])->∃st1',rD P pol call c ops j fc y sl st=some (u,st1')/\rD P pol call c ops i fc x sl st1'=some (v,st2):=(by intro ht;obtain⟨f1,f2,f3⟩:=o8 hny hy ht hmy;have:st2=st1:=St.ext' (λid=>f2 id (by simp)) f1;subst this;obtain⟨st',g1,g2,_,g4⟩:=f3 st (by simp);have:st'=st:=St.ext' (λid=>g4 id (by simp)) g2;subst this;exact⟨st',g1,hx⟩);unfold rB at ha;split at ha
 .rename_i e;exact caseX e
 .rename_i e _;exact caseY e
 .rename_i R1 W1 R2 W2 _ _ e1 e2;simp only[xc6]at ha;obtain⟨⟨d1,d2⟩,d3⟩:=ha;obtain⟨f1,f2,f3⟩:=o8 hnx hx e1 hmx;obtain⟨g1,g2,g3⟩:=o8 hny hy e2 hmy
  obtain⟨st1',k1,k2,k3,k4⟩:=g3 st (λid hid=>(f2 id (by
   rcases hid with hid|hid
   .exact C8 d2 id hid
   .exact λh=>C8 d3 id h hid)).symm)
  obtain⟨st2',q1,q2,q3,q4⟩:=f3 st1' (λid hid=>k4 id (by
   rcases hid with hid|hid
   .exact C8 d1 id hid
   .exact C8 d3 id hid))
  have:st2'=st2:=St.ext' (λid=>by
   by_cases h1:id∈W1
   .rw[q3 id h1,g2 id (C8 d3 id h1)]
   .rw[q4 id h1]
    by_cases h2:id∈W2
    .rw[k3 id h2]
    .rw[k4 id h2,g2 id h2,f2 id h1]) (by rw[q2,k2,g1,f1])
  subst this;exact⟨st1',k1,q1⟩
 .cases ha
theorem x93{i j fc next0:Nat}{x y:Oper}{sl:Nat->AV}{st st1 st2:St}{v u:AV}(hmy:mapLen P y sl=false)(hx:rD P pol call c ops i fc x sl st=some (v,st1))(hy:rD P pol call c ops j fc y sl st1=some (u,st2))(hn:next0<=st.next)(ha:wU (nm (pol c.f (x.dst.getD 0))) (some next0) (c.u,fc+j,y.dst.getD 0) x y sl=true) :
 ∃st1',rD P pol call c ops j fc y sl st=some (u,st1')/\rD P pol call c ops i fc x sl st1'=some (v,st2):=by
 unfold wU at ha;simp only[xc6,xfp]at ha;obtain⟨hny,ha⟩:=ha;split at ha
 .rename_i R W e2;simp only[xc6,xd3,beq_iff_eq]at ha;obtain⟨hlim,hm⟩:=ha;have hlt:∀id:Id,id∈R\/id∈W->id.1<st.next:=λid hid=>by have:=xc8.1 hlim id (xd0.2 hid);simp at this;omega
  have hm0:sI (nm (pol c.f (x.dst.getD 0))) x sl≠0:=(by rcases hm with h|⟨h,_⟩<;>rw[h]<;>simp);obtain⟨m1,m2⟩:=x5k hm0 hx;obtain⟨g1,g2,g3⟩:=o8 hny hy e2 hmy;obtain⟨st1',k1,k2,k3,k4⟩:=g3 st (λid hid=>(m1 id (hlt id hid)).symm);rcases hm with h2|⟨_,hw⟩
  .obtain⟨st2',q1,q2,q3,q4⟩:=m2 h2 st1' k2
   have:st2'=st2:=St.ext' (λid=>by
    by_cases hid:id.1<st.next
    .rw[q3 id hid]
     by_cases hw:id∈W
     .exact k3 id hw
     .rw[k4 id hw,g2 id hw,m1 id hid]
    .have hw:id∉W:=λh=>hid (hlt id (.inr h))
     rw[q4 id (by omega) (k4 id hw),g2 id hw]) (by rw[q2,g1])
   subst this;exact⟨st1',k1,q1⟩
  .have:W=[]:=(by simpa using hw);subst this;have e1:st1'=st:=St.ext' (λid=>k4 id (by simp)) k2;have e3:st2=st1:=St.ext' (λid=>g2 id (by simp)) g1;subst e1 e3;exact⟨st1',k1,hx⟩
 .cases ha
theorem x94{i j fc:Nat}{x y:Oper}{sl:Nat->AV}{st st1 st2:St}{v u:AV}(hmx:mapLen P x sl=false)(hx:rD P pol call c ops i fc x sl st=some (v,st1))(hy:rD P pol call c ops j fc y sl st1=some (u,st2))(hb:∀R W:List Id,qY (c.u,fc+i,x.dst.getD 0) x sl=(some R,some W)->∀id:Id,id∈R\/id∈W->id.1<st.next)(ha:wU (nm (pol c.f (y.dst.getD 0))) none (c.u,fc+i,x.dst.getD 0) y x sl=true) :
 ∃st1',rD P pol call c ops j fc y sl st=some (u,st1')/\rD P pol call c ops i fc x sl st1'=some (v,st2):=by
 unfold wU at ha;simp only[xc6,xfp]at ha;obtain⟨hnx,ha⟩:=ha;split at ha
 .rename_i R W e1;simp only[xda,xc6,xd3,beq_iff_eq]at ha;have hm:=ha;have hlt:=hb R W e1;have hm0:sI (nm (pol c.f (y.dst.getD 0))) y sl≠0:=(by rcases hm with h|⟨h,_⟩<;>rw[h]<;>simp);obtain⟨m1,m2⟩:=x5k hm0 hy;obtain⟨f1,f2,f3⟩:=o8 hnx hx e1 hmx;rcases hm with h2|⟨_,hw⟩
  .obtain⟨st1',q1,q2,q3,q4⟩:=m2 h2 st f1.symm;obtain⟨st2',k1,k2,k3,k4⟩:=f3 st1' (λid hid=>q3 id (by rw[f1];exact hlt id hid))
   have:st2'=st2:=St.ext' (λid=>by
    by_cases hw:id∈W
    .rw[k3 id hw,m1 id (by rw[f1];exact hlt id (.inr hw))]
    .rw[k4 id hw]
     by_cases hid:id.1<st1.next
     .rw[q3 id hid,m1 id hid,f2 id hw]
     .rw[q4 id (by omega) (f2 id hw).symm]) (by rw[k2,q2])
   subst this;exact⟨st1',q1,k1⟩
  .have:W=[]:=(by simpa using hw);subst this;have e3:st1=st:=St.ext' (λid=>f2 id (by simp)) f1;subst e3;obtain⟨st2',k1,k2,k3,k4⟩:=f3 st2 (λid hid=>m1 id (hlt id hid));have:st2'=st2:=St.ext' (λid=>k4 id (by simp)) k2;subst this;exact⟨st2',hy,k1⟩
 .cases ha
end
section
variable{P:Program}{pol:Pol}{call:Hs->FuncId->List AV->St->Option (AV×St)}{c:Ctx}{ops:Array Oper}
def zY(P:Program)(c:Ctx)(L:List Nat)(s:S):Prop:=
 ∃E w tmps,Sim E w s.st/\Tm E w c.nt s.sl tmps/\HsOK P c.hs E w/\c.u<s.st.next/\Used E c.u (λn=>∀i∈L,n≠s.fc+i)
theorem x5l(hc:tO P call){L L':List Nat}{i:Nat}{s s':S}(hg:zY P c L s)(hi:i∈L)(h:tB P pol call c ops i s=some s')(hL:∀j∈L',j∈L/\j≠i):zY P c L' s'/\s.st.next<=s'.st.next:=by
 obtain⟨E,w,tmps,hS,hT,hH,hu,hU⟩:=hg;obtain⟨hled,hfc⟩:=step_ok (a:={tmps,defers:=[]}) (b:=default) (k:=[]) (rest:=[]) hc hS hT hH hu (λid ver hn hi'=>hU id ver hn hi' i hi) h;obtain⟨a',E',w',_,_,h3,h4⟩:=hled [];refine⟨⟨E',w',a'.tmps,h4.sim,h3,hH.later hS h4.later,xcq hu h4.next,h4.used hu hU λn hn j hj=>?_⟩,h4.next⟩;obtain⟨h5,h6⟩:=hL j hj;rw[hfc];rcases hn with hn|hn
 .exact hn j h5
 .rw[hn];omega
theorem touch_lt{L:List Nat}{s:S}(hg:zY P c L s){i:Nat}{o:Oper}{R W:List Id}(ht:qY (c.u,s.fc+i,o.dst.getD 0) o s.sl=(some R,some W)):∀id:Id,id∈R\/id∈W->id.1<s.st.next:=by
 obtain⟨E,w,tmps,hS,hT,hH,hu,hU⟩:=hg;have hev:∀x,E.V w (ev s.sl x) (({tmps,defers:=[]}:Act).eval x):=hT.ev (a:={tmps,defers:=[]});have hp:∀x id ver off,ev s.sl x=.ptr id ver off->id.1<s.st.next:=λx id ver off e=>by have:=hev x;rw[e]at this;obtain⟨_,_,_,h,_⟩:=xO this;exact hS.dom _ _ _ h
 have hm:∀x id,ev s.sl x=.mp id->id.1<s.st.next:=λx id e=>by have:=hev x;rw[e]at this;obtain⟨_,h,_⟩:=V_mp this;exact hS.dom _ _ _ h
 have hr:∀x id ver off n z f,ev s.sl x=.sref id ver off n z f->id.1<s.st.next:=λx id ver off n z f e=>by have:=hev x;rw[e]at this;obtain⟨_,_,_,_,_,h,_⟩:=uL this;exact hS.dom _ _ _ h
 have fin:∀{R0 W0:List Id},(∀id∈R0,id.1<s.st.next)->(∀id∈W0,id.1<s.st.next)->(some R0,some W0)=(some R,some W)->∀id:Id,id∈R\/id∈W->id.1<s.st.next:=(by intro R0 W0 h1 h2 e id hid;simp only[xc3,xc4]at e;obtain⟨rfl,rfl⟩:=e;exact hid.elim (h1 id) (h2 id));have one:∀{id0:Id},id0.1<s.st.next->∀id∈[id0],id.1<s.st.next:=λh id hid=>by simp at hid;rw[hid];exact h
 unfold qY at ht;split at ht
 .split at ht
  .rename_i e;exact fin (one (hp _ _ _ _ e)) (by simp) ht
  .exact fin (by simp) (by simp) ht
 .split at ht
  .rename_i e;exact fin (by simp) (one (hp _ _ _ _ e)) ht
  .cases ht
 .exact fin (by simp) (one hu) ht
 .exact fin (by simp) (one hu) ht
 .exact fin (by simp) (one hu) ht
 .exact fin (by simp) (one hu) ht
 .exact fin (by simp) (one hu) ht
 .split at ht
  .rename_i e;exact fin (one (hm _ _ e)) (by simp) ht
  .exact fin (by simp) (by simp) ht
 .split at ht
  .rename_i e;exact fin (one (hp _ _ _ _ e)) (by simp) ht
  .exact fin (by simp) (by simp) ht
 all_goals try exact fin (by simp) (by simp) ht
 .rename_i cl _;split at ht
  .rename_i b _;have hrs:∀{y:Operand} {R0:List Id},(match ev s.sl y with | .sref id ..=>some [id] | .slit .. | .sc _=>some []|_=>none)=some R0->∀id∈R0,id.1<s.st.next:=by
    intro y R0 h;split at h
    .rename_i e;cases h;exact one (hr _ _ _ _ _ _ _ e)
    .cases h;simp
    .cases h;simp
    .cases h
   have hwa:∀{y:Operand} {R0:List Id},(match ev s.sl y with | .sref id _ _ _ _ true=>some [id] | .sref id _ _ _ _ false=>some [id,(c.u,s.fc+i,o.dst.getD 0)] | .slit .. | .sc _=>some [(c.u,s.fc+i,o.dst.getD 0)]|_=>none)=some R0->∀id∈R0,id.1<s.st.next:=by
    intro y R0 h;split at h
    .rename_i e;cases h;exact one (hr _ _ _ _ _ _ _ e)
    .rename_i e;cases h;intro id hid;rcases xce.mp hid with rfl|hid
     .exact hr _ _ _ _ _ _ _ e
     .exact one hu id hid
    .cases h;exact one hu
    .cases h;exact one hu
    .cases h
   have hwc:∀{y:Operand} {R0:List Id},(match ev s.sl y with | .sref id ..=>some [id] | .sc _=>some []|_=>none)=some R0->∀id∈R0,id.1<s.st.next:=by
    intro y R0 h;split at h
    .rename_i e;cases h;exact one (hr _ _ _ _ _ _ _ e)
    .cases h;simp
    .cases h
   cases b with
   |len=>exact fin (by simp) (by simp) ht
   |min=>exact fin (by simp) (by simp) ht
   |max=>exact fin (by simp) (by simp) ht
   |cap=>exact fin (by simp) (by simp) ht
   |real=>exact fin (by simp) (by simp) ht
   |imag=>exact fin (by simp) (by simp) ht
   |complex=>exact fin (by simp) (by simp) ht
   |append=>
    match hl:cl.args.toList with
    |[x,y]=>rw[hl]at ht;simp only[xc3]at ht;exact λid hid=>hid.elim (hrs ht.1 id) (hwa ht.2 id)
    |[]=>rw[hl]at ht;simp at ht
    |[_]=>rw[hl]at ht;simp at ht
    |_::_::_::_=>rw[hl]at ht;simp at ht
   |copy=>
    match hl:cl.args.toList with
    |[x,y]=>rw[hl]at ht;simp only[xc3]at ht;exact λid hid=>hid.elim (hrs ht.1 id) (hwc ht.2 id)
    |[]=>rw[hl]at ht;simp at ht
    |[_]=>rw[hl]at ht;simp at ht
    |_::_::_::_=>rw[hl]at ht;simp at ht
   |_=>simp at ht
  .cases ht
 .cases ht
def wF(d:Option Tmp)(v:AV)(sl:Nat->AV):Nat->AV:=
 match d with
 |some t=>upd sl t v
 |none=>sl
theorem Q3{d:Option Tmp}{v:AV}{s s':S}(h:Ix.put c d v s=some s'):(∀t,d=some t->t<c.nt)/\s'={s with sl:=wF d v s.sl}:=by
 cases d with
 |none=>simp[Ix.put]at h;subst h;exact⟨by simp,rfl⟩
 |some t=>
  simp only[Ix.put]at h;split at h
  .rename_i ht;cases h;exact⟨λt' e=>by cases e;exact ht,rfl⟩
  .cases h
theorem put_of{d:Option Tmp}{v:AV}{s:S}(h:∀t,d=some t->t<c.nt):Ix.put c d v s=some {s with sl:=wF d v s.sl}:=by
 cases d with
 |none=>rfl
 |some t=>simp[Ix.put,h t rfl,wF]
theorem setd_comm{sl:Nat->AV}{a b:Option Tmp}{v u:AV}(h:∀d,a=some d->b≠some d):wF b u (wF a v sl)=wF a v (wF b u sl):=by
 cases a with
 |none=>rfl
 |some d=>
  cases b with
  |none=>rfl
  |some e=>
   have hne:d≠e:=λh'=>h d rfl (by rw[h'])
   funext t;simp only[wF,upd];by_cases h1:t=e
   .rw[xc2 h1,xc1 (λe2=>hne (e2.symm.trans h1)),xc2 h1]
   .rw[xc1 h1,xc1 h1]
end
section
variable{E:Env}{w:World}{st:St}
theorem I3{f g:AV->List Id}:∀{l:List AV},(∀a∈l,f a=g a)->l.flatMap f=l.flatMap g
 |[],_=>rfl
 |a::l,h=>by rw[xct,xct,h a (by simp),I3 λb hb=>h b (xc9 _ hb)]
theorem Q4(hS:Sim E w st){id0:Id}(h0:∀ver,E.η id0 ver=none)(o:Option Ob):∀(k:Nat) (a:AV) (u:Value),E.V w a u ->
 frz (qM st.objs id0 o) k a=frz st.objs k a/\reach (qM st.objs id0 o) k a=reach st.objs k a/\id0∉reach st.objs k a
 |0,a,u,_=>by simp[frz,reach]
 |k+1,a,u,hV=>by
  have many:∀(cs:List AV) (vs:Array Value),(∀(i:Nat) (a:AV),cs[i]?=some a->∃v,vs[i]?=some v/\E.V w a v) ->
   cs.mapM (frz (qM st.objs id0 o) k)=cs.mapM (frz st.objs k)/\cs.flatMap (reach (qM st.objs id0 o) k)=cs.flatMap (reach st.objs k)/\id0∉cs.flatMap (reach st.objs k):=by
   intro cs vs h;have one:∀a∈cs,frz (qM st.objs id0 o) k a=frz st.objs k a/\reach (qM st.objs id0 o) k a=reach st.objs k a/\id0∉reach st.objs k a:=(by intro a ha;obtain⟨i,hi⟩:=xen.1 ha;obtain⟨v,_,hv⟩:=h i a hi;exact Q4 hS h0 o k a v hv);refine⟨o9 λa ha=>(one a ha).1,I3 λa ha=>(one a ha).2.1,λhm=>?_⟩;obtain⟨a,ha,hm⟩:=xdc.1 hm;exact(one a ha).2.2 hm
  have cell:∀(id:Id) (cs:List AV) (ver:Nat) (fr:Bool),st.objs id=some (.row cs ver fr)->∀a∈cs,∃v,E.V w a v:=(by intro id cs ver fr hob a ha;obtain⟨blk,base,arr,t,h1,h2,h3,h4,h5,h6⟩:=hS.obj id _ hob;obtain⟨i,hi⟩:=xen.1 ha;obtain⟨v,_,hv,_⟩:=h5 i a hi;exact⟨v,hv⟩);have many2:∀(cs:List AV),(∀a∈cs,∃v,E.V w a v) ->
   cs.mapM (frz (qM st.objs id0 o) k)=cs.mapM (frz st.objs k)/\cs.flatMap (reach (qM st.objs id0 o) k)=cs.flatMap (reach st.objs k)/\id0∉cs.flatMap (reach st.objs k):=by
   intro cs h;have one:∀a∈cs,frz (qM st.objs id0 o) k a=frz st.objs k a/\reach (qM st.objs id0 o) k a=reach st.objs k a/\id0∉reach st.objs k a:=λa ha=>by obtain⟨v,hv⟩:=h a ha;exact Q4 hS h0 o k a v hv
   refine⟨o9 λa ha=>(one a ha).1,I3 λa ha=>(one a ha).2.1,λhm=>?_⟩;obtain⟨a,ha,hm⟩:=xdc.1 hm;exact(one a ha).2.2 hm
  cases a with
  |sc v=>simp[frz,reach]
  |slit _ _ _=>simp[frz,reach]
  |plit _=>simp[frz,reach]
  |un _=>simp[frz,reach]
  |yld _=>simp[frz,reach]
  |mp _=>simp[frz,reach]
  |agg cs=>obtain⟨vs,_,_,h⟩:=H1 hV;obtain⟨g1,g2,g3⟩:=many cs vs h;refine⟨?_,g2,g3⟩;show(cs.mapM (frz (qM st.objs id0 o) k)).map AV.agg=_;rw[g1];rfl
  |tup cs=>obtain⟨vs,_,_,h⟩:=V_tup hV;obtain⟨g1,g2,g3⟩:=many cs vs h;refine⟨?_,g2,g3⟩;show(cs.mapM (frz (qM st.objs id0 o) k)).map AV.tup=_;rw[g1];rfl
  |clo f cs=>obtain⟨vs,_,_,h⟩:=l9 hV;obtain⟨g1,g2,g3⟩:=many cs vs h;refine⟨?_,g2,g3⟩;show(cs.mapM (frz (qM st.objs id0 o) k)).map (AV.clo f)=_;rw[g1];rfl
  |sref id ver off n z x=>
   obtain⟨blk,base,len,a,cap,hη,_⟩:=uL hV;have hne:id≠id0:=(by rintro rfl;rw[h0]at hη;cases hη);have he:qM st.objs id0 o id=st.objs id:=(by simp[qM,hne]);have hne':id0≠id:=Ne.symm hne;cases hob:st.objs id with
   |none=>simp[frz,reach,he,hob,hne']
   |some ob=>
    cases ob with
    |row cs v fr=>
     obtain⟨g1,g2,g3⟩:=many2 ((cs.drop off).take (n*z)) λa ha=>cell id cs v fr hob a (xg6 (xfa ha))
     simp only[frz,reach,he,hob,g1,g2];simp only[xce,not_or];exact⟨trivial,trivial,hne',g3⟩
    |map es=>simp[frz,reach,he,hob,hne']
    |lp d=>simp[frz,reach,he,hob,hne']
    |bld t e l=>simp[frz,reach,he,hob,hne']
  |ptr id ver off=>
   obtain⟨blk,base,len,hη,_⟩:=xO hV;have hne:id≠id0:=(by rintro rfl;rw[h0]at hη;cases hη);have he:qM st.objs id0 o id=st.objs id:=(by simp[qM,hne]);have hne':id0≠id:=Ne.symm hne;cases hob:st.objs id with
   |none=>simp[frz,reach,he,hob,hne']
   |some ob=>
    cases ob with
    |row cs v fr=>
     obtain⟨g1,g2,g3⟩:=many2 (cs.drop off) λa ha=>cell id cs v fr hob a (xg6 ha)
     simp only[frz,reach,he,hob,g1,g2];simp only[xce,not_or];exact⟨trivial,trivial,hne',g3⟩
    |map es=>simp[frz,reach,he,hob,hne']
    |lp d=>simp[frz,reach,he,hob,hne']
    |bld t e l=>simp[frz,reach,he,hob,hne']
theorem frzs_ext(hS:Sim E w st){id0:Id}(h0:∀ver,E.η id0 ver=none)(o:Option Ob){l:List AV}(hl:∀a∈l,∃v,E.V w a v)(k:Nat) :
 l.mapM (frz (qM st.objs id0 o) k)=l.mapM (frz st.objs k)/\l.flatMap (reach (qM st.objs id0 o) k)=l.flatMap (reach st.objs k)/\id0∉l.flatMap (reach st.objs k):=by
 have one:∀a∈l,frz (qM st.objs id0 o) k a=frz st.objs k a/\reach (qM st.objs id0 o) k a=reach st.objs k a/\id0∉reach st.objs k a:=λa ha=>by obtain⟨v,hv⟩:=hl a ha;exact Q4 hS h0 o k a v hv
 refine⟨o9 λa ha=>(one a ha).1,I3 λa ha=>(one a ha).2.1,λhm=>?_⟩;obtain⟨a,ha,hm⟩:=xdc.1 hm;exact(one a ha).2.2 hm
theorem x5m{call:Hs->FuncId->List AV->St->Option (AV×St)}{hs:Hs}(hS:Sim E w st){id0:Id}(h0:∀ver,E.η id0 ver=none)(h1:id0.1<st.next)(o:Option Ob){mode:Nat}(hmode:mode=0\/mode=3\/mode=4){g:FuncId}{l:List AV}(hl:∀a∈l,∃v,E.V w a v) :
 rZ call hs mode (.clo g []) l {st with objs:=qM st.objs id0 o}=(rZ call hs mode (.clo g []) l st).map λp=>(p.1,{p.2 with objs:=qM p.2.objs id0 o}):=by
 obtain⟨g1,g2,g3⟩:=frzs_ext hS h0 o (l:=l++[]) (by simpa using hl) qN;rcases hmode with rfl|rfl|rfl
 .simp only[rZ,g1,g2];cases(l++[]).mapM (frz st.objs qN)with
  |none=>rfl
  |some l'=>
   simp only
   cases call [] g l' vT with
   |none=>rfl
   |some p=>
    simp only[Option.map_map];congr 1;funext r;simp only[Function.comp];congr 2;funext i;unfold shut qM;by_cases hi:i=id0
    .subst hi;rw[xc1 g3];simp
    .simp[hi]
 .simp only[rZ,g1];cases(l++[]).mapM (frz st.objs qN)with
  |none=>rfl
  |some l'=>
   simp only
   cases call [] g l' vT with
   |none=>rfl
   |some p=>
    simp only
    split<;>rfl
 .simp only[rZ,g1];cases(l++[]).mapM (frz st.objs qN)with
  |none=>rfl
  |some l'=>
   simp only
   cases call [] g l' {objs:=λ_=>none,next:=st.next}with
   |none=>rfl
   |some p=>
    simp only
    split
    .rename_i hp;simp only[Option.map_some,xc4,xc3,true_and];congr 1;funext i;unfold qM;by_cases hi:i=id0
     .subst hi;have:i∉reach p.2.objs qN p.1:=λhr=>by simp only[xc6]at hp;have:=xc8.1 hp.2 i hr;simp only[xc6,xer]at this;omega
      simp[this]
     .simp[hi]
    .rfl
end
def Eqf(a b:Id->Option Ob):Prop:=∀id,match a id,b id with
 |some (.row cs v _),some (.row cs' v' _)=>cs=cs'/\v=v'
 |x,y=>x=y
theorem Eqf.refl(a:Id->Option Ob):Eqf a a:=λid=>by
 cases h:a id with
 |none=>rfl
 |some o=>cases o<;>simp
theorem Eqf.row{a b:Id->Option Ob}(h:Eqf a b){id:Id}{cs:List AV}{v:Nat}{f:Bool}(e:a id=some (.row cs v f)):∃f',b id=some (.row cs v f'):=by
 have:=h id;rw[e]at this;cases hb:b id with
 |none=>rw[hb]at this;simp at this
 |some o=>
  cases o with
  |row cs' v' f'=>rw[hb]at this;simp at this;obtain⟨rfl,rfl⟩:=this;exact⟨f',rfl⟩
  |map es=>rw[hb]at this;simp at this
  |lp d=>rw[hb]at this;simp at this
  |bld t e l=>rw[hb]at this;simp at this
theorem Eqf.map{a b:Id->Option Ob}(h:Eqf a b){id:Id}{es:List (Value×AV)}(e:a id=some (.map es)):b id=some (.map es):=by
 have:=h id;rw[e]at this;cases hb:b id with
 |none=>rw[hb]at this;simp at this
 |some o=>cases o<;>(rw[hb]at this;simp at this;first|(subst this;rfl)|done)
theorem Eqf.shut(ids:List Id)(objs:Id->Option Ob):Eqf (shut ids objs) objs/\Eqf objs (Ix.shut ids objs):=by
 refine⟨λid=>?_,λid=>?_⟩;all_goals
  by_cases hi:id∈ids
  .cases h:objs id with
   |none=>simp[Ix.shut,hi,h]
   |some o=>cases o<;>simp[Ix.shut,hi,h]
  .cases h:objs id with
   |none=>simp[Ix.shut,hi,h]
   |some o=>cases o<;>simp[Ix.shut,hi,h]
section
variable{P:Program}{id0:Id}{o:Oper}{sl:Nat->AV}{objs objs':Id->Option Ob}{v:AV}
theorem read_eqf(hg:wS o.op=true)(hm:mapLen P o sl=false)(h:qH P id0 o sl objs=some (v,objs')):objs'=objs/\∀objs2:Id->Option Ob,Eqf objs objs2->qH P id0 o sl objs2=some (v,objs2):=by
 have xI:qY id0 o sl=(some [],some [])->objs'=objs/\∀objs2:Id->Option Ob,Eqf objs objs2->qH P id0 o sl objs2=some (v,objs2):=by
  intro ht;obtain⟨f1,f2⟩:=x5d h ht hm;have e:objs'=objs:=funext λi=>f1 i (by simp)
  refine⟨e,λobjs2 _=>?_⟩;obtain⟨objs2',g1,_,g3⟩:=f2 objs2 (by simp);have e2:objs2'=objs2:=funext λi=>g3 i (by simp)
  rw[e2]at g1;exact g1
 cases ho:o.op with
 |load t a=>
  simp only[qH,ho]at h ⊢;split at h
  .rename_i g z hty;split at h
   .rename_i cs he;split at h
    .cases h
    .rename_i hn;simp only[xc5,xc3]at h;obtain⟨r,hr,rfl,rfl⟩:=h;exact⟨rfl,λobjs2 _=>by simp[hr,hn]⟩
   .rename_i id ver off he;split at h
    .rename_i cs vv fr hob;split at h
     .rename_i hv;simp only[xc5,xc3]at h;obtain⟨r,hr,rfl,rfl⟩:=h;refine⟨rfl,λobjs2 ha=>?_⟩;obtain⟨f',hf⟩:=ha.row hob;simp only[hf,xc2 hv,hr,Option.map_some]
     .cases h
    .cases h
   .cases h
  .cases h
 |lookup t x ix ok=>
  simp only[qH,ho]at h ⊢;have hme:∀objs2:Id->Option Ob,Eqf objs objs2->∀es,xH objs (ev sl x)=some es->xH objs2 (ev sl x)=some es:=by
   intro objs2 ha es;unfold xH;split
   .rename_i id he;split
    .rename_i es' hob;intro h2;cases h2;rw[ha.map hob]
    .intro h2;cases h2
   .exact λh2=>h2
   .exact λh2=>h2
  split at h
  .split at h
   .split at h
    .rename_i es hes;split at h
     .cases h;exact⟨rfl,λobjs2 ha=>by rw[hme objs2 ha es hes];simp_all⟩
     .cases h
    .cases h
   .cases h
  .cases h
 |slice t x lo hi mx=>
  by_cases hp:∃id ver off,ev sl x=.ptr id ver off;rotate_left
  .refine xI ?_;simp only[qY,ho];split
   .rename_i id ver off e;exact absurd ⟨id,ver,off,e⟩ hp
   .rfl
  obtain⟨id,ver,off,he⟩:=hp;cases mx with
  |some m=>
   cases hi with
   |none=>simp[qH,ho]at h
   |some hi=>
    simp only[qH,ho,he,rA]at h;split at h
    .split at h
     .cases h
     .cases h
    .cases h
  |none=>
   simp only[qH,ho,he,rA]at h ⊢;split at h
   .split at h
    .cases h
    .cases h
   .split at h
    .split at h
     .rename_i cs vv fr hob;split at h
      .rename_i hc;simp only[xc4,xc3]at h;obtain⟨rfl,rfl⟩:=h;refine⟨rfl,λobjs2 ha=>?_⟩;obtain⟨f',hf⟩:=ha.row hob;simp only[hf];simp_all<;>omega
      .cases h
     .cases h
    .cases h
   .cases h
 |call c=>
  simp only[wS,ho]at hg;cases hc:c.callee with
  |builtin b=>rw[hc]at hg;exact xI (by cases b<;>simp at hg<;>simp[qY,ho,hc])
  |value _=>simp[hc]at hg
  |invoke _ _=>simp[hc]at hg
 |_=>first|(simp[wS,ho]at hg;done)|exact xI (by simp[qY,ho])
theorem new_exec(hg:yK o.op=true)(h:qH P id0 o sl objs=some (v,objs')) :
 (objs'=objs/\∀objs2:Id->Option Ob,qH P id0 o sl objs2=some (v,objs2))\/∃ob,objs'=qM objs id0 (some ob)/\∀objs2:Id->Option Ob,qH P id0 o sl objs2=some (v,qM objs2 id0 (some ob)):=by
 cases ho:o.op with
 |alloc t=>
  simp only[qH,ho]at h;split at h
  .rename_i cs hz;split at h
   .rename_i e hb;cases h;exact .inr ⟨_,rfl,λobjs2=>by simp[qH,ho,hz,hb]⟩
   .rename_i hb;cases h;exact .inr ⟨_,rfl,λobjs2=>by simp[qH,ho,hz,hb]⟩
  .cases h
 |box t x=>
  simp only[qH,ho]at h;split at h
  .rename_i hz;cases h;exact .inr ⟨_,rfl,λobjs2=>by simp only[qH,ho];rw[xc2 hz]⟩
  .cases h
 |makeMap t r=>
  cases r with
  |some r=>simp[qH,ho]at h
  |none=>simp only[qH,ho]at h;cases h;exact .inr ⟨_,rfl,λobjs2=>by simp[qH,ho]⟩
 |makeSlice t l c=>
  simp only[qH,ho]at h;split at h
  .split at h
   .split at h
    .cases h;exact .inr ⟨_,rfl,λobjs2=>by simp_all [qH]⟩
    .cases h
   .cases h
  .cases h
 |buildSlice t n ps=>
  simp only[qH,ho]at h;split at h
  .split at h
   .split at h
    .split at h
     .split at h
      .cases h
      .split at h
       .cases h;exact .inl ⟨rfl,λobjs2=>by simp_all [qH]⟩
       .cases h;exact .inr ⟨_,rfl,λobjs2=>by simp_all [qH]⟩
     .cases h
    .cases h
   .cases h
  .cases h
 |_=>simp[ho,yK]at hg
end
section
variable{P:Program}{pol:Pol}{call:Hs->FuncId->List AV->St->Option (AV×St)}{c:Ctx}{ops:Array Oper}
theorem s6{i fc:Nat}{o:Oper}{sl:Nat->AV}{st:St}(h1:∀fv args at',o.op≠.call ⟨.value fv,args,at'⟩)(h2:∀rv name args at',o.op≠.call ⟨.invoke rv name,args,at'⟩) :
 rD P pol call c ops i fc o sl st=if vE ops o sl then(qH P (c.u,fc+i,o.dst.getD 0) o sl st.objs).map λp=>(p.1,{st with objs:=p.2})else some (.sc undef,st):=by
 unfold rD;split
 .split
  .rename_i e;exact absurd e (h1 _ _ _)
  .rename_i e;exact absurd e (h2 _ _ _ _)
  .rfl
 .rfl
theorem Q5{o:Oper}(h:wS o.op=true\/yK o.op=true):(∀fv args at',o.op≠.call ⟨.value fv,args,at'⟩)/\∀rv name args at',o.op≠.call ⟨.invoke rv name,args,at'⟩:=by refine⟨λfv args at' e=>?_,λrv name args at' e=>?_⟩<;>(rw[e]at h;rcases h with h|h<;>simp[wS,yK]at h)
theorem x5n{i fc:Nat}{o:Oper}{sl:Nat->AV}{st st1:St}{v:AV}(hg:wS o.op=true)(hm:mapLen P o sl=false)(h:rD P pol call c ops i fc o sl st=some (v,st1)) :
 st1=st/\∀st2:St,Eqf st.objs st2.objs->rD P pol call c ops i fc o sl st2=some (v,st2):=by
 obtain⟨k1,k2⟩:=Q5 (.inl hg);rw[s6 k1 k2]at h;split at h
 .rename_i hw;simp only[xc5,xc3]at h;obtain⟨p,hp,rfl,rfl⟩:=h;obtain⟨e,hr⟩:=read_eqf (v:=p.1) (objs':=p.2) hg hm hp;refine⟨by rw[e],λst2 ha=>?_⟩;rw[s6 k1 k2,xc2 hw,hr _ ha];rfl
 .rename_i hw;cases h;exact⟨rfl,λst2 _=>by rw[s6 k1 k2,xc1 hw]⟩
theorem I4{i fc:Nat}{o:Oper}{sl:Nat->AV}{st st1:St}{v:AV}(hg:yK o.op=true)(h:rD P pol call c ops i fc o sl st=some (v,st1)) :
 (st1=st/\∀st2:St,rD P pol call c ops i fc o sl st2=some (v,st2)) \/
 ∃ob,st1={st with objs:=qM st.objs (c.u,fc+i,o.dst.getD 0) (some ob)}/\∀st2:St,rD P pol call c ops i fc o sl st2=some (v,{st2 with objs:=qM st2.objs (c.u,fc+i,o.dst.getD 0) (some ob)}):=by
 obtain⟨k1,k2⟩:=Q5 (.inr hg);rw[s6 k1 k2]at h;split at h
 .rename_i hw;simp only[xc5,xc3]at h;obtain⟨p,hp,rfl,rfl⟩:=h;rcases new_exec (v:=p.1) (objs':=p.2) hg hp with ⟨e,hr⟩|⟨ob,e,hr⟩
  .refine .inl ⟨by rw[e],λst2=>?_⟩;rw[s6 k1 k2,xc2 hw,hr];rfl
  .refine .inr ⟨ob,by rw[e],λst2=>?_⟩;rw[s6 k1 k2,xc2 hw,hr];rfl
 .rename_i hw;cases h;exact .inl ⟨rfl,λst2=>by rw[s6 k1 k2,xc1 hw]⟩
theorem uY{i fc:Nat}{x:Oper}{g:FuncId}{args:Array Operand}{ats:Array TypeId}(hx:x.op=.call ⟨.value (.func g),args,ats⟩){sl:Nat->AV}{st:St} :
 rD P pol call c ops i fc x sl st=if vE ops x sl then tZ call c.u fc c.hs (nm (pol c.f (x.dst.getD 0))) (.clo g []) (args.toList.map (ev sl)) st else some (.sc undef,st):=by
 unfold rD;rw[hx];rfl
theorem x5o{mode:Nat}{x:Oper}{y:Op}(h:xJ mode x y=true):(∃g args ats,x.op=.call ⟨.value (.func g),args,ats⟩)/\((yK y=true/\(nm mode=0\/nm mode=3\/nm mode=4))\/(wS y=true/\(nm mode=0\/nm mode=3))\/((yK y=true\/zM y=true)/\nm mode=9)):=by
 unfold xJ at h;simp only[xc6,xd3]at h;obtain⟨h1,h2⟩:=h;refine⟨?_,?_⟩
 .split at h1
  .rename_i g args ats e;exact⟨g,args,ats,e⟩
  .cases h1
 .rcases h2 with (⟨h2,h3⟩|⟨h2,h3⟩)|⟨h2,h3⟩
  .left;refine⟨h2,?_⟩;rcases h3 with (h3|h3)|h3<;>(have:=xcb h3;subst this;simp[nm])
  .right;left;refine⟨h2,?_⟩;rcases h3 with h3|h3<;>(have:=xcb h3;subst this;simp[nm])
  .right;right;refine⟨h2,?_⟩;have:=xcb h3;subst this;simp[nm]
theorem xR{u fc:Nat}{hs:Hs}{mode:Nat}{fv:AV}{l:List AV}{st:St}(h:mode≠9):tZ call u fc hs mode fv l st=rZ call hs mode fv l st:=by unfold tZ;rw[xc1 h]
theorem x5p{u fc:Nat}{hs:Hs}{g:FuncId}{l:List AV}{st:St}{id0:Id}(o:Option Ob)(hi:wT u fc id0=true) :
 tZ call u fc hs 9 (.clo g []) l {st with objs:=qM st.objs id0 o}=(tZ call u fc hs 9 (.clo g []) l st).map λp=>(p.1,{p.2 with objs:=qM p.2.objs id0 o}):=by
 unfold tZ;rw[xc2 rfl,xc2 rfl];have e:yL u fc {st with objs:=qM st.objs id0 o}=yL u fc st:=by
  unfold yL;simp only
  congr 1;funext i;by_cases h:i=id0
  .subst h;simp[hi]
  .simp[qM,h]
 simp only[e];cases call [] g (l++[]) (yL u fc st)with
 |none=>rfl
 |some p=>
  simp only[Option.map_some,xc4,xc3,true_and];unfold G8;simp only
  congr 1;funext i;by_cases h:i=id0
  .subst h;simp[hi,qM]
  .simp[qM,h]
theorem x5q{u fc i d:Nat}:wT u fc (u,fc+i,d)=true:=by simp[wT]
theorem x5r{i fc:Nat}{o:Oper}{sl:Nat->AV}{st st1:St}{v:AV}(hg:zM o.op=true)(hm:mapLen P o sl=false)(h:rD P pol call c ops i fc o sl st=some (v,st1)) :
 st1=st/\∀st2:St,rD P pol call c ops i fc o sl st2=some (v,st2):=by
 have hr:wS o.op=true:=by
  cases ho:o.op with
  |call cl=>simp only[ho,zM]at hg;simp only[wS];exact hg
  |_=>first|rfl|(simp[ho,zM]at hg;done)
 have ht:qY (c.u,fc+i,o.dst.getD 0) o sl=(some [],some []):=by
  cases ho:o.op with
  |call cl=>
   simp only[ho,zM]at hg;simp only[qY,ho];cases hc:cl.callee with
   |builtin b=>rw[hc]at hg;cases b<;>simp at hg<;>rfl
   |value _=>rw[hc]at hg;cases hg
   |invoke _ _=>rw[hc]at hg;cases hg
  |_=>first|(simp[qY,ho];done)|(simp[ho,zM]at hg;done)
 obtain⟨k1,k2⟩:=Q5 (.inl hr);have hn:rN o=false:=by
  unfold rN;split
  .rename_i e;exact absurd e (k1 _ _ _)
  .rfl
 obtain⟨f1,f2,f3⟩:=o8 hn h ht hm;refine⟨St.ext' (λid=>f2 id (by simp)) f1,λst2=>?_⟩;obtain⟨st2',g1,g2,g3,g4⟩:=f3 st2 (by simp);rw[g1,St.ext' (λid=>g4 id (by simp)) g2]
theorem x5s{hs:Hs}{mode:Nat}(hm:mode=0\/mode=3){g:FuncId}{l:List AV}{st st1:St}{v:AV}(h:rZ call hs mode (.clo g []) l st=some (v,st1)):Eqf st.objs st1.objs/\Eqf st1.objs st.objs:=by
 rcases hm with rfl|rfl
 .simp only[rZ]at h;split at h
  .split at h
   .simp only[xc5,xc3]at h;obtain⟨r',_,rfl,rfl⟩:=h;exact⟨(Eqf.shut _ _).2,(Eqf.shut _ _).1⟩
   .cases h
  .cases h
 .simp only[rZ]at h;split at h
  .split at h
   .split at h
    .cases h;exact⟨Eqf.refl _,Eqf.refl _⟩
    .cases h
   .cases h
  .cases h
theorem swap_soft{L:List Nat}{i j:Nat}{x y:Oper}{s:S}{st1 st2:St}{v u:AV}(hg:zY P c L s)(hi:j∈L)(hmy:mapLen P y s.sl=false)(hs:xJ (pol c.f (x.dst.getD 0)) x y.op=true)(hx:rD P pol call c ops i s.fc x s.sl s.st=some (v,st1))(hy:rD P pol call c ops j s.fc y s.sl st1=some (u,st2)) :
 ∃st1',rD P pol call c ops j s.fc y s.sl s.st=some (u,st1')/\rD P pol call c ops i s.fc x s.sl st1'=some (v,st2):=by
 obtain⟨⟨g,args,ats,hop⟩,hk⟩:=x5o hs;obtain⟨E,w,tmps,hS,hT,hH,hu,hU⟩:=hg;rw[uY hop]at hx;split at hx;rotate_left
 .rename_i hw;cases hx;exact⟨st2,hy,by rw[uY hop,xc1 hw]⟩
 rename_i hw;have h0:∀ver,E.η (c.u,s.fc+j,y.dst.getD 0) ver=none:=λver=>by
  cases he:E.η (c.u,s.fc+j,y.dst.getD 0) ver with
  |none=>rfl
  |some z=>exact absurd rfl (hU _ ver (by rw[he];simp) rfl j hi)
 have hl:∀a∈args.toList.map (ev s.sl),∃v,E.V w a v:=λa ha=>by obtain⟨z,_,rfl⟩:=xch.1 ha;exact⟨_,(Tm.ev (a:={tmps,defers:=[]}) hT) z⟩
 rcases hk with ⟨hf,hm⟩|⟨hr,hm⟩|⟨hf,hm⟩
 .rw[xR (by rcases hm with e|e|e<;>simp[e])]at hx;rcases I4 hf hy with ⟨rfl,hr⟩|⟨ob,rfl,hr⟩
  .exact⟨s.st,hr s.st,by rw[uY hop,xc2 hw,xR (by rcases hm with e|e|e<;>simp[e]),hx]⟩
  .refine⟨_,hr s.st,?_⟩;rw[uY hop,xc2 hw,xR (by rcases hm with e|e|e<;>simp[e]),x5m hS h0 (by exact hu) _ hm hl,hx];rfl
 .rw[xR (by rcases hm with e|e<;>simp[e])]at hx;obtain⟨e1,e2⟩:=x5s hm hx;obtain⟨rfl,h2⟩:=x5n hr hmy hy;exact⟨s.st,h2 _ e2,by rw[uY hop,xc2 hw,xR (by rcases hm with e|e<;>simp[e]),hx]⟩
 .rcases hf with hf|hf
  .rcases I4 hf hy with ⟨rfl,hr⟩|⟨ob,rfl,hr⟩
   .exact⟨s.st,hr s.st,by rw[uY hop,xc2 hw,hx]⟩
   .refine⟨_,hr s.st,?_⟩;rw[hm]at hx;rw[uY hop,xc2 hw,hm,x5p _ x5q,hx];rfl
  .obtain⟨rfl,h2⟩:=x5r hf hmy hy;exact⟨s.st,h2 _,by rw[uY hop,xc2 hw,hx]⟩
theorem x95{L:List Nat}{i j:Nat}{x y:Oper}{s:S}{st1 st2:St}{v u:AV}(hg:zY P c L s)(hi:i∈L)(hmx:mapLen P x s.sl=false)(hs:xJ (pol c.f (y.dst.getD 0)) y x.op=true)(hx:rD P pol call c ops i s.fc x s.sl s.st=some (v,st1))(hy:rD P pol call c ops j s.fc y s.sl st1=some (u,st2)) :
 ∃st1',rD P pol call c ops j s.fc y s.sl s.st=some (u,st1')/\rD P pol call c ops i s.fc x s.sl st1'=some (v,st2):=by
 obtain⟨⟨g,args,ats,hop⟩,hk⟩:=x5o hs;obtain⟨E,w,tmps,hS,hT,hH,hu,hU⟩:=hg;rw[uY hop]at hy;split at hy;rotate_left
 .rename_i hw;cases hy;exact⟨s.st,by rw[uY hop,xc1 hw],hx⟩
 rename_i hw;have h0:∀ver,E.η (c.u,s.fc+i,x.dst.getD 0) ver=none:=λver=>by
  cases he:E.η (c.u,s.fc+i,x.dst.getD 0) ver with
  |none=>rfl
  |some z=>exact absurd rfl (hU _ ver (by rw[he];simp) rfl i hi)
 have hl:∀a∈args.toList.map (ev s.sl),∃v,E.V w a v:=λa ha=>by obtain⟨z,_,rfl⟩:=xch.1 ha;exact⟨_,(Tm.ev (a:={tmps,defers:=[]}) hT) z⟩
 rcases hk with ⟨hf,hm⟩|⟨hr,hm⟩|⟨hf,hm⟩
 .rw[xR (by rcases hm with e|e|e<;>simp[e])]at hy;rcases I4 hf hx with ⟨rfl,hr⟩|⟨ob,rfl,hr⟩
  .exact⟨st2,by rw[uY hop,xc2 hw,xR (by rcases hm with e|e|e<;>simp[e]),hy],hr st2⟩
  .rw[x5m hS h0 (by exact hu) _ hm hl]at hy;simp only[xc5,xc3]at hy;obtain⟨p,hp,rfl,rfl⟩:=hy;exact⟨p.2,by rw[uY hop,xc2 hw,xR (by rcases hm with e|e|e<;>simp[e]),hp],hr p.2⟩
 .rw[xR (by rcases hm with e|e<;>simp[e])]at hy;obtain⟨rfl,h2⟩:=x5n hr hmx hx;obtain⟨e1,e2⟩:=x5s hm hy;exact⟨st2,by rw[uY hop,xc2 hw,xR (by rcases hm with e|e<;>simp[e]),hy],h2 st2 e1⟩
 .rcases hf with hf|hf
  .rcases I4 hf hx with ⟨rfl,hr⟩|⟨ob,rfl,hr⟩
   .exact⟨st2,by rw[uY hop,xc2 hw,hy],hr st2⟩
   .rw[hm,x5p _ x5q]at hy;simp only[xc5,xc3]at hy;obtain⟨p,hp,rfl,rfl⟩:=hy;exact⟨p.2,by rw[uY hop,xc2 hw,hm,hp],hr p.2⟩
  .obtain⟨rfl,h2⟩:=x5r hf hmx hx;exact⟨st2,by rw[uY hop,xc2 hw,hy],h2 st2⟩
end
section
variable{P:Program}{pol:Pol}{call:Hs->FuncId->List AV->St->Option (AV×St)}{c:Ctx}{ops:Array Oper}
theorem Q6{y:Oper}{d:Option Tmp}{v:AV}{sl:Nat->AV}(h:∀t,d=some t->t∉y.looksAt ops):zX ops y sl (wF d v sl):=by
 intro t ht;cases d with
 |none=>rfl
 |some e=>simp only[wF,upd];rw[xc1];rintro rfl;exact h t rfl ht
theorem swap_step{L:List Nat}{i j next0:Nat}{x y:Oper}{s s1 s2:S}(hmx:mapLen P x s.sl=false)(hmy:mapLen P y s.sl=false)(hx:ops[i]?=some x)(hy:ops[j]?=some y)(hg:zY P c L s)(hi:i∈L)(hj:j∈L)(hn:next0<=s.st.next)(h1:tB P pol call c ops i s=some s1)(h2:tB P pol call c ops j s1=some s2)(hp:pairOK pol c s.fc next0 ops i j s.sl=true):∃s1',tB P pol call c ops j s=some s1'/\tB P pol call c ops i s1'=some s2:=by
 rw[C7 hx]at h1;simp only[xdb]at h1;obtain⟨⟨v,st1⟩,e1,p1⟩:=h1;obtain⟨d1,rfl⟩:=Q3 p1;rw[C7 hy]at h2;simp only[xdb]at h2;obtain⟨⟨u,st2⟩,e2,p2⟩:=h2;obtain⟨d2,rfl⟩:=Q3 p2;simp only[pairOK,hx,hy,xc6,xd3]at hp;obtain⟨ha,hp⟩:=hp;obtain⟨a1,a2,a3⟩:=Oper.apart_spec ha;rw[x5e (Q6 a1)]at e2;have key:∃st1',rD P pol call c ops j s.fc y s.sl s.st=some (u,st1')/\rD P pol call c ops i s.fc x s.sl st1'=some (v,st2):=by
  rcases hp with (hp|hp)|hp
  .exact swap_soft hg hj hmy hp e1 e2
  .exact x95 hg hi hmx hp e1 e2
  split at hp
  .exact x93 hmy e1 e2 hn hp
  .rename_i hcx;split at hp
   .exact x94 hmx e1 e2 (λR W ht=>touch_lt hg ht) hp
   .rename_i hcy;exact swap_ops hmx hmy (by simpa using hcx) (by simpa using hcy) e1 e2 hp
 obtain⟨st1',k1,k2⟩:=key;refine⟨{sl:=wF y.dst u s.sl,st:=st1',fc:=s.fc},?_,?_⟩
 .rw[C7 hy,k1];simp only[xeu];rw[put_of d2]
 .rw[C7 hx];simp only
  rw[x5e (Q6 a3),k2];simp only[xeu];rw[put_of d1];simp only
  rw[setd_comm a2]
theorem x5t{id0:Id}{o:Oper}{sl sl2:Nat->AV}(h:quiet o.op=true):qY id0 o sl2=qY id0 o sl:=by
 unfold qY;cases ho:o.op with
 |call cl=>
  simp only[quiet,ho]at h;cases hc:cl.callee with
  |builtin b=>cases b<;>simp[hc]at h<;>simp only[hc]
  |_=>simp[hc]at h
 |_=>first|rfl|(simp[quiet,ho]at h;done)
theorem x5u{m:Nat}{o:Oper}{sl sl2:Nat->AV}(h:quiet o.op=true):sI m o sl2=sI m o sl:=by
 unfold sI;cases ho:o.op with
 |call cl=>
  simp only[quiet,ho]at h;cases hc:cl.callee with
  |value f=>simp[hc]at h
  |_=>simp only[hc]
 |_=>rfl
def Same(P:Program)(ops:Array Oper)(o:Oper)(sl sl2:Nat->AV):Prop:=zN P o.op=true\/zX ops o sl sl2
theorem I5{o:Op}(h:zN P o=true):quiet o=true:=by unfold zN at h;rw[xc6]at h;exact h.1
theorem x5v{o:Oper}{sl sl2:Nat->AV}(h:Same P ops o sl sl2):mapLen P o sl2=mapLen P o sl:=by
 unfold mapLen;cases ho:o.op with
 |convert src dst x=>
  simp only
  split
  .rename_i hs hd;rcases h with h|h
   .unfold zN txtC at h;rw[ho]at h;simp only[hs,hd,xdt,Bool.and_false]at h;cases h
   .have:=z0 h x (by rw[ho];simp[Op.operands]);rw[this]
  .rfl
 |_=>rfl
theorem pair_conv{i j fc next0:Nat}{x y:Oper}{sl sl2:Nat->AV}(hx:ops[i]?=some x)(hy:ops[j]?=some y)(h1:Same P ops x sl sl2)(h2:Same P ops y sl sl2):pairOK pol c fc next0 ops i j sl2=pairOK pol c fc next0 ops i j sl:=by
 have t1:∀id0,qY id0 x sl2=qY id0 x sl:=λid0=>h1.elim (λh=>x5t (I5 h)) x5f
 have t2:∀id0,qY id0 y sl2=qY id0 y sl:=λid0=>h2.elim (λh=>x5t (I5 h)) x5f
 have m1:∀m,sI m x sl2=sI m x sl:=λm=>h1.elim (λh=>x5u (I5 h)) x5g
 have m2:∀m,sI m y sl2=sI m y sl:=λm=>h2.elim (λh=>x5u (I5 h)) x5g
 simp only[pairOK,hx,hy,wU,t1,t2,m1,m2]
theorem step_sl{i:Nat}{s s':S}(h:tB P pol call c ops i s=some s'):∃v,s'.sl=wF ((ops[i]?).bind (·.dst)) v s.sl:=by
 cases ho:ops[i]? with
 |none=>unfold tB at h;simp only[ho,xc4]at h;subst h;exact⟨.sc undef,rfl⟩
 |some o=>rw[C7 ho]at h;simp only[xdb]at h;obtain⟨⟨v,st1⟩,_,p1⟩:=h;obtain⟨_,rfl⟩:=Q3 p1;exact⟨v,rfl⟩
theorem Q7:∀(M:List Nat) {s s1:S} {o:Oper},sX P pol call c ops M s=some s1->(∀j∈M,∀d,(ops[j]?).bind (·.dst)=some d->d∉o.looksAt ops)->zX ops o s.sl s1.sl
 |[],s,s1,o,h,_=>by simp[sX]at h;subst h;exact λ_ _=>rfl
 |j::M,s,s1,o,h,hd=>by
  simp only[sX]at h;split at h
  .rename_i s' hs';obtain⟨v,hv⟩:=step_sl hs';have h2:=Q7 M h (λk hk=>hd k (xc9 _ hk));intro t ht;rw[h2 t ht,hv];exact Q6 (hd j (xcf)) t ht
  .cases h
structure Fit (P:Program) (pol:Pol) (c:Ctx) (ops:Array Oper) (fc next0:Nat) (slf:Nat->AV) (bef:Nat->Nat->Bool) (M:List Nat):Prop where
 sorted:M.Pairwise (· < ·)
 size:∀i∈M,i<ops.size
 late:∀i∈M,∀j∈M,i<=j->Ix.late P ops i j=true
 pair:∀i∈M,∀j∈M,i<j->bef j i=false->pairOK pol c fc next0 ops i j slf=true
 len:∀i∈M,∀o,ops[i]?=some o->mapLen P o slf=false
theorem x5w(hc:tO P call){next0 fc:Nat}{bef:Nat->Nat->Bool}{x:Nat}{B:List Nat}{s1:S}:∀(A:List Nat) {s:S},(A++x::B).Nodup->zY P c (A++x::B) s->next0<=s.st.next->s.fc=fc->Fit P pol c ops fc next0 s1.sl bef (A++x::B)->(∀a∈A,bef x a=false) ->
 sX P pol call c ops (A++x::B) s=some s1->sX P pol call c ops (x::(A++B)) s=some s1
 |[],s,_,_,_,_,_,_,h=>h
 |a::A,s,hN,hg,hn,hfc,hf,hb,h=>by
  have hA:a<ops.size:=hf.size a (by simp);have hX:x<ops.size:=hf.size x (by simp);have hax:a<x:=(by have:=xdp.1 hf.sorted;exact this.1 x (by simp));rw[xdw]at h hN;simp only[sX]at h;split at h
  .rename_i s' hs';have hN':=xe5.1 hN;obtain⟨hg',hn'⟩:=x5l (L':=A++x::B) hc hg (xcf) hs' (λj hj=>⟨xc9 _ hj,λe=>hN'.1 (e▸hj)⟩);have hf':Fit P pol c ops fc next0 s1.sl bef (A++x::B):=⟨(xdp.1 hf.sorted).2,λi hi=>hf.size i (xc9 _ hi),λi hi j hj=>hf.late i (xc9 _ hi) j (xc9 _ hj),λi hi j hj=>hf.pair i (xc9 _ hi) j (xc9 _ hj),λi hi=>hf.len i (xc9 _ hi)⟩;have ih:=x5w hc (s:=s') A hN'.2 hg' (xd4 hn hn') ((P6 hs').trans hfc) hf' (λb hb'=>hb b (xc9 _ hb')) h;simp only[sX]at ih;split at ih
   .rename_i s'' hs'';have hp:=hf.pair a (by simp) x (by simp) hax (hb a (by simp));have hoa:ops[a]?=some ops[a]:=xcl hA;have hox:ops[x]?=some ops[x]:=xcl hX;have hlate:∀i∈a::(A++x::B),∀(hi:i<ops.size),∀j∈a::(A++x::B),i<=j->zN P (ops[i]).op=true\/∀d,(ops[j]?).bind (·.dst)=some d->d∉(ops[i]).looksAt ops:=by
     intro i hi hlt j hj hij;have hl:=hf.late i hi j hj hij;unfold Ix.late at hl;rw[xcl hlt]at hl;cases hd:(ops[j]?).bind (·.dst)with
     |none=>exact .inr (by simp)
     |some d=>
      simp only[hd,xd3,xfp]at hl;rcases hl with hl|hl
      .exact .inl hl
      .exact .inr (λd' e=>by cases e;simpa using hl)
    have full:sX P pol call c ops (a::x::(A++B)) s=some s1:=(by simp only[sX,hs',hs''];exact ih);have same_a:Same P ops ops[a] s.sl s1.sl:=by
     by_cases hq:zN P (ops[a]).op=true
     .exact .inl hq
     .refine .inr (Q7 _ full λj hj d hd=>?_);have hj':j∈a::(A++x::B):=(by simp at hj ⊢;rcases hj with h|h|h|h<;>simp[h]);have haj:a<=j:=by
       have:=xdp.1 hf.sorted;rcases xce.1 hj' with rfl|h
       .exact xc7 _
       .exact Nat.le_of_lt (this.1 j h)
      exact((hlate a (by simp) hA j hj' haj).resolve_left hq) d hd
    have same_x:Same P ops ops[x] s.sl s1.sl:=by
     by_cases hq:zN P (ops[x]).op=true
     .exact .inl hq
     .refine .inr (Q7 _ full λj hj d hd=>?_);have hj':j∈a::(A++x::B):=(by simp at hj ⊢;rcases hj with h|h|h|h<;>simp[h]);rcases xcu j x with hlt|hge
      .have hjb:bef x j=false:=by
        have:j∈a::A:=by
         have hso:=hf.sorted;rw[xeh]at hso;have hj2:j∈(a::A)++(x::B):=(by simpa using hj');rcases xd0.1 hj2 with h|h
         .exact h
         .rcases xce.1 h with rfl|h
          .omega
          .have:=(xdp.1 hso.2.1).1 j h;omega
        exact hb j this
       have hpj:=hf.pair j hj' x (by simp) hlt hjb;have hjs:=hf.size j hj';simp only[pairOK,xcl hjs,hox,xc6]at hpj;rw[xcl hjs]at hd;exact(Oper.apart_spec hpj.1).1 d hd
      .exact((hlate x (by simp) hX j hj' hge).resolve_left hq) d hd
    rw[pair_conv hoa hox same_a same_x]at hp;obtain⟨s1',k1,k2⟩:=swap_step ((x5v same_a).symm.trans (hf.len a (by simp) _ hoa)) ((x5v same_x).symm.trans (hf.len x (by simp) _ hox)) hoa hox hg (by simp) (by simp) hn hs' hs'' (by rw[hfc];exact hp);simp only[xdw,sX,k1,k2];exact ih
   .cases ih
  .cases h
end
section
variable{P:Program}{pol:Pol}{call:Hs->FuncId->List AV->St->Option (AV×St)}{c:Ctx}{ops:Array Oper}
inductive Legal (bef:Nat->Nat->Bool):List Nat->List Nat->Prop
 |nil:Legal bef [] []
 |cons {A B L:List Nat} {x:Nat} (h:∀a∈A++B,bef x a=false) (h':Legal bef (A++B) L):Legal bef (A++x::B) (x::L)
theorem run_legal(hc:tO P call){next0 fc:Nat}{bef:Nat->Nat->Bool}{s1:S}{M L:List Nat}(hl:Legal bef M L):∀{s:S},M.Nodup->zY P c M s->next0<=s.st.next->s.fc=fc->Fit P pol c ops fc next0 s1.sl bef M->sX P pol call c ops M s=some s1->sX P pol call c ops L s=some s1:=by
 induction hl with
 |nil=>intro s _ _ _ _ _ h;exact h
 | @cons A B L x hb _ ih=>
   intro s hN hg hn hfc hf h;have h':=x5w hc A hN hg hn hfc hf (λa ha=>hb a (xei _ ha)) h;simp only[sX]at h' ⊢;split at h'
   .rename_i s' hs';have hsub:∀j∈A++B,j∈A++x::B:=λj hj=>by simp at hj ⊢;rcases hj with h|h<;>simp[h]
    have hne:∀j∈A++B,j≠x:=by
     intro j hj e;subst e;have:=hN;rw[xdv]at this;rcases xd0.1 hj with h|h
     .exact this.2.2 j h j (by simp) rfl
     .exact(xe5.1 this.2.1).1 h
    obtain⟨hg',hn'⟩:=x5l (L':=A++B) hc hg (by simp) hs' (λj hj=>⟨hsub j hj,hne j hj⟩);exact ih (List.Nodup.sublist (List.Sublist.append_left (List.sublist_cons_self _ _) _) hN) hg' (xd4 hn hn') ((P6 hs').trans hfc)
     ⟨hf.sorted.sublist (List.Sublist.append_left (List.sublist_cons_self _ _) _),λi hi=>hf.size i (hsub i hi),λi hi j hj=>hf.late i (hsub i hi) j (hsub j hj),λi hi j hj=>hf.pair i (hsub i hi) j (hsub j hj),λi hi=>hf.len i (hsub i hi)⟩ h'
   .cases h'
end
section
variable{ops:Array Oper}
def vH(o:Oper):List Nat:=(o.after.toList.filter (Region.binds .any)).map (·.on)
theorem befs_go(X:Nat->Prop)(hX:∀i o,ops[i]?=some o->X i->∀k∈vH o,X k):∀(os:List Oper) (acc:List (List Nat)),(∀i,ops[acc.length+i]?=os[i]?)->(∀j o,j<acc.length->ops[j]?=some o->(∀k∈vH o,X k)->∀k∈acc.getD j [],X k) ->
 ∀j o,ops[j]?=some o->(∀k∈vH o,X k)->∀k∈(os.foldl (λacc o=>acc++[(o.after.toList.filter (Region.binds .any)).flatMap λe=>e.on::acc.getD e.on []]) acc).getD j [],X k
 |[],acc,hos,hacc=>by
  intro j o ho hd;rcases xcu j acc.length with h|h
  .exact hacc j o h ho hd
  .have:=hos (j-acc.length);rw[show acc.length+(j-acc.length)=j by omega,ho]at this;simp at this
 |o0::os,acc,hos,hacc=>by
  have ho0:ops[acc.length]?=some o0:=(by have:=hos 0;simpa using this);refine befs_go X hX os _ (λi=>?_) (λj o hj ho hd=>?_)
  .have:=hos (i+1);simp only[xdx,xco,xea,xf5]at this ⊢;rw[<-this];congr 1;omega
  .intro k hk;simp only[xdx,xco,xea]at hj;rcases xcu j acc.length with h|h
   .rw[xcg,xed h,<-xcg]at hk;exact hacc j o h ho hd k hk
   .have e:j=acc.length:=(by omega);subst e;rw[xcg,xee (xc7 _)]at hk;simp only[Nat.sub_self,xf4,Option.getD_some,xdc]at hk;obtain⟨e,he,hk⟩:=hk;rw[ho0]at ho;cases ho;have hXe:X e.on:=hd _ (xch.2 ⟨e,he,rfl⟩);rcases xce.1 hk with rfl|hk
    .exact hXe
    .rcases xcu e.on acc.length with h2|h2
     .cases ho2:ops[e.on]? with
      |none=>have hlt:acc.length<ops.size:=(xf0.1 ho0).1;rw[Array.getElem?_eq_none_iff]at ho2;omega
      |some o2=>exact hacc e.on o2 h2 ho2 (hX _ _ ho2 hXe) k hk
     .rw[xcg,xef h2]at hk;simp at hk
theorem befs_in(X:Nat->Prop)(hX:∀i o,ops[i]?=some o->X i->∀k∈vH o,X k){j:Nat}{o:Oper}(ho:ops[j]?=some o)(hd:∀k∈vH o,X k):∀k∈(xK ops).getD j [],X k:=
 befs_go X hX ops.toList [] (λi=>by simp) (λj o hj=>by simp at hj) j o ho hd
theorem x5x:∀(os:List Oper) (acc:List (List Nat)) {j:Nat} {o:Oper},(∀i,ops[acc.length+i]?=os[i]?)->(∀j o,j<acc.length->ops[j]?=some o->∀k∈vH o,k∈acc.getD j [])->ops[j]?=some o ->
 ∀k∈vH o,k∈(os.foldl (λacc o=>acc++[(o.after.toList.filter (Region.binds .any)).flatMap λe=>e.on::acc.getD e.on []]) acc).getD j []
 |[],acc,j,o,hos,hacc,ho=>by
  rcases xcu j acc.length with h|h
  .exact hacc j o h ho
  .have:=hos (j-acc.length);rw[show acc.length+(j-acc.length)=j by omega,ho]at this;simp at this
 |o0::os,acc,j,o,hos,hacc,ho=>by
  have ho0:ops[acc.length]?=some o0:=(by have:=hos 0;simpa using this);refine x5x os _ (λi=>?_) (λj o hj ho k hk=>?_) ho
  .have:=hos (i+1);simp only[xdx,xco,xea,xf5]at this ⊢;rw[<-this];congr 1;omega
  .simp only[xdx,xco,xea]at hj;rcases xcu j acc.length with h|h
   .rw[xcg,xed h,<-xcg];exact hacc j o h ho k hk
   .have e:j=acc.length:=(by omega);subst e;rw[ho0]at ho;cases ho;rw[xcg,xee (xc7 _)];simp only[Nat.sub_self,xf4,Option.getD_some,xdc];obtain⟨e,he,rfl⟩:=xch.1 hk;exact⟨e,he,xcf⟩
theorem x96{j:Nat}{o:Oper}(ho:ops[j]?=some o):∀k∈vH o,k∈(xK ops).getD j []:=
 x5x ops.toList [] (λi=>by simp) (λj o hj=>by simp at hj) ho
end
section
variable{P:Program}{pol:Pol}{ops:Array Oper}
def bef(ops:Array Oper)(j i:Nat):Bool:=((xK ops).getD j []).contains i
def left(ops:Array Oper)(listed:Array Bool):List Nat:=(List.range ops.size).filter λi=>!listed.getD i true
theorem x97{listed:Array Bool}{i:Nat}(h:i∈Region.ready .any ops listed):i∈left ops listed/\∃o,ops[i]?=some o/\∀k∈vH o,listed.getD k false=true:=by
 simp only[Region.ready,xcn,xc6]at h;obtain⟨h1,h2,h3⟩:=h;refine⟨by simp only[left,xcn];exact⟨h1,h2⟩,?_⟩;cases ho:ops[i]? with
 |none=>simp[ho]at h3
 |some o=>refine⟨o,rfl,λk hk=>?_⟩;simp only[ho,Option.map_some,Option.getD_some]at h3;simp only[vH,xch,xcn]at hk;obtain⟨e,⟨he,hb⟩,rfl⟩:=hk;have:=xfn.1 h3 e (by simpa using he);simpa[hb]using this
theorem ready_of{listed:Array Bool}{i:Nat}{o:Oper}(hi:i∈left ops listed)(ho:ops[i]?=some o)(hd:∀k∈vH o,listed.getD k false=true):i∈Region.ready .any ops listed:=by
 simp only[left,xcn]at hi;simp only[Region.ready,xcn,xc6];refine⟨hi.1,hi.2,?_⟩;simp only[ho,Option.map_some,Option.getD_some];rw[xfn];intro e he;cases hb:Region.binds .any e with
 |false=>rfl
 |true=>have:=hd e.on (by simp only[vH,xch,xcn];exact⟨e,⟨by simpa using he,hb⟩,rfl⟩);simp[this]
theorem x5y(hlow:∀(j:Nat) (o:Oper),ops[j]?=some o->∀k∈vH o,k<j):∀(fuel t:Nat) (listed:Array Bool),listed.size=ops.size->(∀(i:Nat) (o:Oper),ops[i]?=some o->listed.getD i false=true->∀k∈vH o,listed.getD k false=true)->(left ops listed).length<=fuel ->
 Legal (bef ops) (left ops listed) (Region.linearise.go .any ops fuel t listed [])
 |0,t,listed,hs,hcl,hf=>by have:left ops listed=[]:=xdy.1 (by omega);rw[this];simp only[Region.linearise.go,List.reverse_nil];exact .nil
 |fuel+1,t,listed,hs,hcl,hf=>by
  simp only[Region.linearise.go]
  change Legal (bef ops) (left ops listed) (match (Region.ready .any ops listed)[t % (Region.ready .any ops listed).length]? with
   |some i=>Region.linearise.go .any ops fuel (t / (Region.ready .any ops listed).length) (listed.setIfInBounds i true) [i]
   |none=>[].reverse)
  cases hi:(Region.ready .any ops listed)[t % (Region.ready .any ops listed).length]? with
  |none=>
   have hnil:Region.ready .any ops listed=[]:=by
    cases hr:Region.ready .any ops listed with
    |nil=>rfl
    |cons x xs=>rw[hr]at hi;have hlt:t % (x::xs).length<(x::xs).length:=xe4 _ (by simp);rw[xci hlt]at hi;cases hi
   have hl:left ops listed=[]:=by
    cases hl:left ops listed with
    |nil=>rfl
    |cons m ms=>
     exfalso;have hm:m∈left ops listed:=(by rw[hl];simp);have hms:m<ops.size:=(by simp only[left,xcn,xcs]at hm;exact hm.1);have hso:(left ops listed).Pairwise (· < ·):=List.Pairwise.filter _ xg7;have:m∈Region.ready .any ops listed:=ready_of hm (xcl hms) λk hk=>by
      have hkm:=hlow m _ (xcl hms) k hk;cases hlk:listed.getD k false with
      |true=>rfl
      |false=>
       exfalso;have hk2:k∈left ops listed:=(by simp only[left,xcn,xcs];refine⟨by omega,?_⟩;rw[xdd,xcl (by omega)]at hlk ⊢;simpa using hlk);rw[hl]at hk2 hso;rcases xce.1 hk2 with rfl|hk3
       .omega
       .have:=(xdp.1 hso).1 k hk3;omega
     rw[hnil]at this;simp at this
   rw[hl];exact .nil
  |some i=>
   simp only
   rw[linearise_go_acc,List.reverse_singleton,List.singleton_append];obtain⟨hil,o,ho,hd⟩:=x97 (xd1 hi);have hlt:i<ops.size:=(xf0.1 ho).1;obtain⟨A,B,hAB⟩:=List.append_of_mem hil;have hN:(left ops listed).Nodup:=List.Nodup.sublist List.filter_sublist xfm;have rT:∀(k:Nat) (d:Bool),(listed.setIfInBounds i true).getD k d=if k=i then true else listed.getD k d:=by
    intro k d;rw[xdd,xdd];split
    .rename_i e;subst e;rw[xet (by omega)];rfl
    .rename_i e;rw[xdj (Ne.symm e)]
   have hleft:left ops (listed.setIfInBounds i true)=A++B:=by
    have h1:left ops (listed.setIfInBounds i true)=(left ops listed).filter (λk=>k≠i):=by
     simp only[left,List.filter_filter];refine List.filter_congr λk _=>?_
     rw[rT];by_cases e:k=i<;>simp[e]
    rw[h1,hAB];rw[hAB]at hN;rw[xdv]at hN;have hA:A.filter (λk=>k≠i)=A:=xew.2 λa ha=>by have:=hN.2.2 a ha i (by simp);simpa using this
    have hB:B.filter (λk=>k≠i)=B:=xew.2 λa ha=>by
     have:=(xe5.1 hN.2.1).1;have:a≠i:=λe=>this (e▸ha)
     simpa using this
    rw[xex,List.filter_cons_of_neg (by simp),hA,hB]
   rw[hAB];refine .cons (λa ha=>?_) ?_
   .have hal:a∈left ops listed:=(by rw[hAB];simp at ha ⊢;rcases ha with h|h<;>simp[h]);cases hb:bef ops i a with
    |false=>rfl
    |true=>exfalso;simp only[bef,List.contains_iff_mem]at hb;have:=befs_in (ops:=ops) (λk=>listed.getD k false=true) hcl ho hd a hb;simp only[left,xcn,xcs]at hal;rw[xdd,xcl (by omega)]at this;have h2:=hal.2;rw[xdd,xcl (by omega)]at h2;simp at this h2;rw[this]at h2;cases h2
   .rw[<-hleft];refine x5y hlow fuel _ _ (by simpa using hs) (λk o' ho' hk j hj=>?_) (by rw[hleft];rw[hAB]at hf;simp at hf ⊢;omega);rw[rT]at hk ⊢;split
    .rfl
    .split at hk
     .rename_i e;subst e;rw[ho]at ho';cases ho';exact hd j hj
     .exact hcl k o' ho' hk j hj
theorem Legal.perm{b:Nat->Nat->Bool}{M L:List Nat}(h:Legal b M L):M.Perm L:=by
 induction h with
 |nil=>exact .nil
 |cons _ _ ih=>exact(List.perm_middle).trans (ih.cons _)
theorem ord_ok(hm:P.follows .mixedOrders=true):C4 P pol:=by
 intro call hc c ops s s1 E w tmps hS hT hH hu hU hrun hml hd t;have hd':∀j,j<ops.size->late P ops j j=true/\(∀k∈(xK ops).getD j [],k<j)/\∀i,i<j->late P ops i j=true/\(bef ops j i=true\/pairOK pol c s.fc s.st.next ops i j s1.sl=true):=(by intro j hj;have:=xc8.1 hd j (xcs.2 hj);simp only[xc6,xc8,xcs,xer,xd3]at this;exact⟨this.1.1,this.1.2,this.2⟩);have hlow:∀(j:Nat) (o:Oper),ops[j]?=some o->∀k∈vH o,k<j:=λj o ho k hk=>(hd' j (xf0.1 ho).1).2.1 k (x96 ho k hk)
 have hleft:left ops (Array.replicate ops.size false)=List.range ops.size:=by
  refine xew.2 λi hi=>?_
  rw[xdd,xg3,xc2 (xcs.1 hi)];rfl
 have hfalse:∀i,(Array.replicate ops.size false).getD i false=false:=λi=>by rw[xdd,xg3];split<;>rfl
 have hleg:Legal (bef ops) (List.range ops.size) (Region.schedule (P.follows .mixedOrders) ops t):=(by have:=x5y hlow ops.size t (Array.replicate ops.size false) (by simp) (λi o _ h=>by rw[hfalse]at h;cases h) (by rw[hleft];simp);rw[hleft]at this;simpa only[Region.schedule,hm,Bool.true_or,xcm,Region.linearise]using this);refine⟨(hleg.perm.nodup_iff).1 xfm,λi hi=>xcs.1 (hleg.perm.mem_iff.2 hi),?_⟩;refine run_legal hc hleg xfm ⟨E,w,tmps,hS,hT,hH,hu,λid ver hn hi i _=>by have:=hU id ver hn hi;simp only at this;omega⟩ (xc7 _) rfl ⟨xg7,λi hi=>xcs.1 hi,λi hi j hj hij=>?_,λi hi j hj hij hb=>?_,λi _ o ho=>?_⟩ hrun
 .rcases xcu i j with h|h
  .exact((hd' j (xcs.1 hj)).2.2 i h).1
  .have:i=j:=(by omega);subst this;exact(hd' i (xcs.1 hi)).1
 .exact((hd' j (xcs.1 hj)).2.2 i hij).2.resolve_left (by rw[hb];simp)
 .simp only[zO,xg8]at hml;have hmem:o∈ops.toList:=(by simpa using xg1 ho);simpa using hml o hmem
end
theorem x98{P:Program}(hm:P.follows .mixedOrders=true){pol:Pol}(ht:o5 P pol){n:Nat}{f:FuncId}{args:List AV}{vs:Array Value}{w:World}{r:AV}{st':St}(hk:∀w',Ext (λb=>b<w.heap.size) w w'->n7 P w')(hb:uM P f)(h:rV P pol n [] f args vT=some (r,st'))(hl:vs.size=args.length)(hV:∀(i:Nat) (a:AV) (v:Value),args[i]?=some a->vs[i]?=some v->V (λb=>b<w.heap.size) w eta0 [] a v) :
 Calls P f vs w λe w'=>∃u,e=.returned u/\(∃(F:Nat->Prop) (η:Eta) (ζ:List Nat),V F w' η ζ r u)/\Ext (λ_=>True) w w':=by
 obtain⟨_,h2⟩:=ixCall_ok ht (ord_ok (pol:=pol) hm) n [] f args vT r st' h (zU (λb=>b<w.heap.size) (λw'=>Ext (λb=>b<w.heap.size) w w') w) w vs (C1 (λ_ h=>h) 0 λ_ h=>h) ⟨hl,hV⟩ (C2 hk);intro cs;obtain⟨E',w',u,hAr,s4,s5⟩:=h2 cs;obtain⟨fr',s1,s2,s3⟩:=hAr.elim (λh=>h.2) λh=>absurd hb h.1
 exact⟨.returned u,w',fr',⟨u,rfl,⟨_,_,_,s4⟩,C3 s5.later⟩,s1,s2,s3⟩
theorem x99{P:Program}(hm:P.follows .mixedOrders=true){pol:Pol}(ht:o5 P pol){n:Nat}{f:FuncId}{args:List AV}{vs:Array Value}{w:World}{x:Value}{st':St}(hk:∀w',Ext (λb=>b<w.heap.size) w w'->n7 P w')(hb:uM P f)(h:rV P pol n [] f args vT=some (.sc x,st'))(hl:vs.size=args.length)(hV:∀(i:Nat) (a:AV) (v:Value),args[i]?=some a->vs[i]?=some v->V (λb=>b<w.heap.size) w eta0 [] a v) :
 Calls P f vs w λe w'=>e=.returned x/\Ext (λ_=>True) w w':=by
 refine Calls.mono (x98 hm ht hk hb h hl hV) λe w' ⟨u,he,⟨F,η,ζ,hv⟩,hx⟩=>?_
 rw[uK hv]at he;exact⟨he,hx⟩
end Go.Ix
