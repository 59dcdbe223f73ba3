import Derived.Test.YtibmppgmjbpdmaaGreatDoorIxC
import Derived.Orders
set_option linter.unusedSimpArgs false
set_option linter.unusedVariables false
namespace Go.Ix
section
variable{P:Program}{id0:Id}{o:Oper}{sl sl2:Nat->AV}{objs objs':Id->Option Ob}
theorem x1aw{l:List Operand}(h:∀x∈l,ev sl2 x=ev sl x):l.map (ev sl2)=l.map (ev sl):=List.map_congr_left h
theorem map_ev2{l:List (Nat×Operand)}(h:∀x∈l.map (·.2),ev sl2 x=ev sl x):(l.map λ(i,x)=>(i,ev sl2 x))=l.map λ(i,x)=>(i,ev sl x):=
 List.map_congr_left λp hp=>by
  have:=h p.2 (List.mem_map_of_mem hp)
  obtain⟨i,x⟩:=p
  simp only at this ⊢
  rw[this]
theorem x1ii(h:∀x∈o.op.operands.toList,ev sl2 x=ev sl x):ixOp P id0 o sl2 objs=ixOp P id0 o sl objs:=by
 unfold ixOp
 cases ho:o.op with
 |build t ps=>
  simp only[ho,Op.operands]at h
  simp only[map_ev2 h]
 |buildSlice t n ps=>
  simp only[ho,Op.operands]at h
  simp only[map_ev2 h]
 |makeFunc fn first captured=>
  simp only[ho,Op.operands]at h
  have:=x1aw (l:=captured.toList) (λx hx=>h x (by simp at hx ⊢;exact .inr hx))
  cases fn<;>simp only[this]
 |call c=>
  simp only[ho,Op.operands]at h
  have:=x1aw (l:=c.args.toList) (λx hx=>h x (by simp[Call.operands]at hx ⊢;first|exact .inl hx|exact .inr hx|exact hx|(cases c.callee<;>simp_all)))
  cases c.callee<;>simp only[this]
 |slice t x lo hi mx=>
  simp only[ho,Op.operands]at h
  have hx:=h x (by simp)
  cases mx with
  |some m=>cases lo<;>cases hi<;>simp_all
  |none=>cases lo<;>cases hi<;>simp_all
 |makeMap t r=>cases r<;>rfl
 |alloc t=>rfl
 |_=>simp only[ho,Op.operands]at h;simp at h;simp only[h]
def Foot(P:Program)(id0:Id)(o:Oper)(sl:Nat->AV)(objs objs':Id->Option Ob)(v:AV)(R W:List Id):Prop:=
 (∀id,id∉W->objs' id=objs id)/\∀objs2:Id->Option Ob,(∀id,id∈R\/id∈W->objs2 id=objs id)->∃objs2',ixOp P id0 o sl objs2=some (v,objs2')/\(∀id∈W,objs2' id=objs' id)/\∀id,id∉W->objs2' id=objs2 id
theorem Foot.pure{v:AV}{R W:List Id}(h:ixOp P id0 o sl objs=some (v,objs'))(hp:∀objs2,∃g:Option AV,ixOp P id0 o sl objs2=g.map (λv=>(v,objs2))/\ixOp P id0 o sl objs=g.map (λv=>(v,objs))):Foot P id0 o sl objs objs' v R W:=by
 have key:∀objs2,ixOp P id0 o sl objs2=some (v,objs2)/\objs'=objs:=by
  intro objs2
  obtain⟨g,h1,h2⟩:=hp objs2
  rw[h2]at h
  cases g with
  |none=>simp at h
  |some x=>simp at h;rw[h1];simp[h.1,h.2]
 have he:=(key objs).2
 subst he
 exact⟨λ_ _=>rfl,λobjs2 h2=>⟨objs2,(key objs2).1,λid hid=>h2 id (.inr hid),λ_ _=>rfl⟩⟩
def blind:Op->Bool
 | .move _ | .assign _ | .pick .. | .binOp .. | .unOp .. | .convert .. | .sliceToArrayPointer .. | .fieldAddr .. | .field .. | .indexAddr .. | .index .. | .extract .. | .build .. | .nilCheck _ | .makeFunc ..=>true
 |_=>false
theorem txt_same{src dst:TypeId}{x:Operand}(ho:o.op=.convert src dst x)(hm:mapLen P o sl=false)(objs objs2:Id->Option Ob):x177 P objs src dst (ev sl x)=x177 P objs2 src dst (ev sl x):=by
 unfold x177
 split
 .rename_i el hs hd
  have hr:isRf (ev sl x)=false:=by simpa[mapLen,ho,hs,hd]using hm
  have he:elems objs 1 (ev sl x)=elems objs2 1 (ev sl x):=by
   cases hx:ev sl x with
   |sref _ _ _ _ _ _=>rw[hx]at hr;cases hr
   |sc v=>cases v<;>first|rfl|(rename_i a n c;cases a<;>cases n<;>rfl)
   |_=>rfl
  rw[he]
 .rfl
theorem x1ij{v:AV}{R W:List Id}(hb:blind o.op=true)(hm:mapLen P o sl=false)(h:ixOp P id0 o sl objs=some (v,objs')):Foot P id0 o sl objs objs' v R W:=by
 refine .pure h λobjs2=>?_
 cases ho:o.op with
 |move x=>exact⟨some (ev sl x),by simp[ixOp,ho],by simp[ixOp,ho]⟩
 |assign x=>exact⟨some (ev sl x),by simp[ixOp,ho],by simp[ixOp,ho]⟩
 |convert s d x=>
  refine⟨(match x177 P objs s d (ev sl x)with|some b=>some (.sc (.string b))|none=>sCvt P s d (ev sl x)),?_,?_⟩
  .simp only[ixOp,ho,txt_same ho hm objs2 objs]
   cases x177 P objs s d (ev sl x)<;>rfl
  .simp only[ixOp,ho]
   cases x177 P objs s d (ev sl x)<;>rfl
 |_=>
  (try (simp[ho,blind]at hb;done)) <;>
  (refine⟨(ixOp P id0 o sl objs).map (·.1),?_,?_⟩<;>simp only[ixOp,ho]<;>(repeat' split)<;>first|rfl|simp_all [Option.map_map,Function.comp_def])
theorem Foot.mk'{v:AV}{R W:List Id}(h:ixOp P id0 o sl objs=some (v,objs'))(h1:∀id,id∉W->objs' id=objs id)(h2:∀objs2:Id->Option Ob,(∀id,id∈R\/id∈W->objs2 id=objs id)->ixOp P id0 o sl objs2=some (v,λid=>if id∈W then objs' id else objs2 id)):Foot P id0 o sl objs objs' v R W:=
 ⟨h1,λobjs2 ha=>⟨_,h2 objs2 ha,λid hid=>by simp[hid],λid hid=>by simp[hid]⟩⟩
theorem x17d{id:Id}{x:Option Ob}{i:Id}(h:i∉[id]):updo objs id x i=objs i:=by
 simp at h;simp[updo,h]
theorem x17e{objs2:Id->Option Ob}{id:Id}{x:Option Ob}:(λi=>if i∈[id]then updo objs id x i else objs2 i)=updo objs2 id x:=by
 funext i;simp only[updo,x1rm];split<;>rfl
theorem x19n{objs2:Id->Option Ob}{R W:List Id}(h:∀id,id∈R\/id∈W->objs2 id=objs id):(λi=>if i∈W then objs i else objs2 i)=objs2:=by
 funext i;split
 .rename_i hi;exact(h i (.inr hi)).symm
 .rfl
theorem x1ax{v:AV}(h:ixOp P id0 o sl objs=some (v,objs'))(hk:(match o.op with | .alloc _ | .box _ _ | .makeSlice .. | .makeMap .. | .buildSlice ..=>true|_=>false)=true):Foot P id0 o sl objs objs' v [] [id0]:=by
 cases ho:o.op with
 |alloc t=>
  simp only[ixOp,ho]at h
  split at h
  .rename_i cs hz
   split at h
   .rename_i e hb
    cases h
    exact .mk' (by simp[ixOp,ho,hz,hb]) (λ_ hi=>x17d hi) λobjs2 ha=>by rw[x17e];simp[ixOp,ho,hz,hb]
   .rename_i hb
    cases h
    exact .mk' (by simp[ixOp,ho,hz,hb]) (λ_ hi=>x17d hi) λobjs2 ha=>by rw[x17e];simp[ixOp,ho,hz,hb]
  .cases h
 |box t x=>
  simp only[ixOp,ho]at h
  split at h
  .rename_i hz
   cases h
   exact .mk' (by simp only[ixOp,ho];rw[x1p0 hz]) (λ_ hi=>x17d hi) λobjs2 ha=>by rw[x17e];simp only[ixOp,ho];rw[x1p0 hz]
  .cases h
 |makeMap t r=>
  cases r with
  |some r=>simp[ixOp,ho]at h
  |none=>
   simp only[ixOp,ho]at h
   cases h
   exact .mk' (by simp[ixOp,ho]) (λ_ hi=>x17d hi) λobjs2 ha=>by rw[x17e];simp[ixOp,ho]
 |makeSlice t l c=>
  simp only[ixOp,ho]at h
  split at h
  .split at h
   .split at h
    .cases h
     exact .mk' (by simp_all [ixOp]) (λ_ hi=>x17d hi) λobjs2 ha=>by rw[x17e];simp_all [ixOp]
    .cases h
   .cases h
  .cases h
 |buildSlice t n ps=>
  simp only[ixOp,ho]at h
  split at h
  .split at h
   .split at h
    .split at h
     .split at h
      .cases h
      .split at h
       .cases h
        exact .mk' (by simp_all [ixOp]) (λ_ _=>rfl) λobjs2 ha=>by rw[x19n ha];simp_all [ixOp]
       .cases h
        exact .mk' (by simp_all [ixOp]) (λ_ hi=>x17d hi) λobjs2 ha=>by rw[x17e];simp_all [ixOp]
     .cases h
    .cases h
   .cases h
  .cases h
 |_=>simp[ho]at hk
theorem x17y{v:AV}{R W:List Id}(h:ixOp P id0 o sl objs=some (v,objs'))(ht:x158 id0 o sl=(some R,some W))(hm:mapLen P o sl=false)(hk:(match o.op with | .load .. | .lookup .. | .slice ..=>true | .call c=>(match c.callee with | .builtin .len | .builtin .min | .builtin .max | .builtin .cap | .builtin .real | .builtin .imag | .builtin .complex=>true|_=>false)|_=>false)=true):Foot P id0 o sl objs objs' v R W:=by
 have key:objs'=objs/\∀objs2:Id->Option Ob,(∀id,id∈R\/id∈W->objs2 id=objs id)->ixOp P id0 o sl objs2=some (v,objs2):=by
  cases ho:o.op with
  |load t a=>
   simp only[x158,ho]at ht
   simp only[ixOp,ho]at h ⊢
   split at h
   .rename_i g z hty
    split at h
    .rename_i cs he
     split at h
     .cases h
     .rename_i hn
      simp only[x1p3,x1p1]at h
      obtain⟨r,hr,rfl,rfl⟩:=h
      exact⟨rfl,λobjs2 _=>by simp[hr,hn]⟩
    .rename_i id ver off he
     simp only[he,x1p1,x1p2]at ht
     obtain⟨rfl,rfl⟩:=ht
     split at h
     .rename_i cs vv fr hob
      split at h
      .rename_i hv
       simp only[x1p3,x1p1]at h
       obtain⟨r,hr,rfl,rfl⟩:=h
       exact⟨rfl,λobjs2 ha=>by rw[ha id (.inl (by simp)),hob];simp[hv,hr]⟩
      .cases h
     .cases h
    .cases h
   .cases h
  |lookup t x ix ok=>
   simp only[x158,ho]at ht
   simp only[ixOp,ho]at h ⊢
   have hm:∀objs2:Id->Option Ob,(∀id,id∈R\/id∈W->objs2 id=objs id)->x184 objs2 (ev sl x)=x184 objs (ev sl x):=by
    intro objs2 ha
    unfold x184
    split
    .rename_i id he
     simp only[he,x1p1,x1p2]at ht
     obtain⟨rfl,rfl⟩:=ht
     rw[ha id (.inl (by simp))]
    .rfl
    .rfl
   split at h
   .split at h
    .split at h
     .split at h
      .cases h
       exact⟨rfl,λobjs2 ha=>by rw[hm objs2 ha];simp_all⟩
      .cases h
     .cases h
    .cases h
   .cases h
  |slice t x lo hi mx=>
   simp only[x158,ho]at ht
   cases mx with
   |some m=>
    cases hi with
    |none=>simp[ixOp,ho]at h
    |some hi=>
    simp only[ixOp,ho]at h ⊢
    split at h
    .split at h
     .simp only[x1p3,x1p1]at h
      obtain⟨r,hr,rfl,rfl⟩:=h
      exact⟨rfl,λobjs2 _=>by simp_all⟩
     .cases h
    .split at h
     .split at h
      .split at h
       .split at h
        .simp only[x1p2,x1p1]at h
         obtain⟨rfl,rfl⟩:=h
         exact⟨rfl,λobjs2 _=>by simp_all⟩
        .cases h
       .split at h
        .simp only[x1p2,x1p1]at h
         obtain⟨rfl,rfl⟩:=h
         exact⟨rfl,λobjs2 _=>by simp_all⟩
        .cases h
       .cases h
      .cases h
     .cases h
   |none=>
    simp only[ixOp,ho]at h ⊢
    split at h
    .split at h
     .simp only[x1p3,x1p1]at h
      obtain⟨r,hr,rfl,rfl⟩:=h
      exact⟨rfl,λobjs2 _=>by simp_all⟩
     .cases h
    .split at h
     .split at h
      .split at h
       .split at h
        .split at h
         .simp only[x1p2,x1p1]at h
          obtain⟨rfl,rfl⟩:=h
          exact⟨rfl,λobjs2 _=>by simp_all⟩
         .cases h
        .cases h
       .split at h
        .split at h
         .simp only[x1p2,x1p1]at h
          obtain⟨rfl,rfl⟩:=h
          exact⟨rfl,λobjs2 _=>by simp_all⟩
         .cases h
        .cases h
       .cases h
      .cases h
     .split at h
      .split at h
       .rename_i id ver off he
        simp only[he,x1p1,x1p2]at ht
        obtain⟨rfl,rfl⟩:=ht
        split at h
        .split at h
         .simp only[x1p2,x1p1]at h
          obtain⟨rfl,rfl⟩:=h
          refine⟨rfl,λobjs2 ha=>?_⟩
          have hid:=ha id (.inl (by simp))
          simp_all<;>omega
         .cases h
        .cases h
       .cases h
      .cases h
     .cases h
  |call c=>
   simp only[ho]at hk
   cases hc:c.callee with
   |builtin b=>
    have one:∀{g:Option Value} {r:AV×(Id->Option Ob)},(g.map λv=>(x15m v,objs))=some r->r.2=objs/\∀objs2:Id->Option Ob,(g.map λv=>(x15m v,objs2))=some (r.1,objs2):=by
     intro g r hg
     cases g with
     |none=>simp at hg
     |some x=>simp at hg;subst hg;exact⟨rfl,λ_=>rfl⟩
    have vals:∀{g:Option AV},(g.map λv=>(v,objs))=some (v,objs')->objs'=objs/\∀objs2:Id->Option Ob,(g.map λv=>(v,objs2))=some (v,objs2):=by
     intro g hg
     cases g with
     |none=>simp at hg
     |some x=>simp at hg;obtain⟨rfl,rfl⟩:=hg;exact⟨rfl,λ_=>rfl⟩
    have valsL:∀{k:List Value->Option Value},(match x160 (c.args.toList.map (ev sl))with|some vs=>(k vs).map (λv=>(x15m v,objs))|none=>none)=some (v,objs') ->
     objs'=objs/\∀objs2:Id->Option Ob,(match x160 (c.args.toList.map (ev sl))with|some vs=>(k vs).map (λv=>(x15m v,objs2))|none=>none)=some (v,objs2):=by
     intro k hk
     split at hk
     .obtain⟨h1,h2⟩:=one hk
      exact⟨h1,λobjs2=>h2 objs2⟩
     .cases hk
    cases b with
    |max=>simp only[ixOp,ho,hc,x15q]at h ⊢;exact⟨(vals h).1,λobjs2 _=>(vals h).2 objs2⟩
    |min=>simp only[ixOp,ho,hc,x15q]at h ⊢;exact⟨(vals h).1,λobjs2 _=>(vals h).2 objs2⟩
    |cap=>simp only[ixOp,ho,hc,x15q]at h ⊢;exact⟨(vals h).1,λobjs2 _=>(vals h).2 objs2⟩
    |real=>simp only[ixOp,ho,hc,x15q]at h ⊢;exact⟨(vals h).1,λobjs2 _=>(vals h).2 objs2⟩
    |imag=>simp only[ixOp,ho,hc,x15q]at h ⊢;exact⟨(vals h).1,λobjs2 _=>(vals h).2 objs2⟩
    |complex=>simp only[ixOp,ho,hc,x15q]at h ⊢;exact⟨(vals h).1,λobjs2 _=>(vals h).2 objs2⟩
    |len=>
     simp only[ixOp,ho,hc,x15q]at h ⊢
     split at h
     .split at h
      .split at h
       .simp only[x1p2,x1p1]at h
        obtain⟨rfl,rfl⟩:=h
        exact⟨rfl,λobjs2 _=>by simp_all⟩
       .cases h
      .cases h
     .split at h
      .split at h
       .simp only[x1p2,x1p1]at h
        obtain⟨rfl,rfl⟩:=h
        exact⟨rfl,λobjs2 _=>by simp_all⟩
       .cases h
      .cases h
     .split at h
      .split at h
       .rename_i hu
        exact absurd (show mapLen P o sl=true by simp only[mapLen,ho,hc,hu]) (by rw[hm];simp)
       .cases h
      .cases h
     .obtain⟨g1,g2⟩:=valsL (k:=λvs=>x150 P (Builtin.len_ c.argTypes o.type vs.toArray)) h
      exact⟨g1,λobjs2 _=>g2 objs2⟩
    |_=>simp[hc]at hk
   |_=>simp[hc]at hk
  |_=>simp[ho]at hk
 refine .mk' h (λ_ _=>by rw[key.1]) λobjs2 ha=>?_
 rw[key.1,x19n ha]
 exact key.2 objs2 ha
theorem x1fu{objs2:Id->Option Ob}{z:Nat}{x:AV}(h:∀id ver off n z' f,x=.sref id ver off n z' f->objs2 id=objs id):elems objs2 z x=elems objs z x:=by
 unfold elems
 split
 .rfl
 .rfl
 .rename_i id ver off n z' f;rw[h id ver off n z' f rfl]
 .rfl
theorem x1de{v:AV}{R W:List Id}(h:ixOp P id0 o sl objs=some (v,objs'))(ht:x158 id0 o sl=(some R,some W))(hk:(match o.op with | .store ..=>true | .call c=>(match c.callee with | .builtin .append | .builtin .copy=>true|_=>false)|_=>false)=true):Foot P id0 o sl objs objs' v R W:=by
 cases ho:o.op with
 |store t a x=>
  simp only[x158,ho]at ht
  have h0:=h
  simp only[ixOp,ho]at h
  split at h
  .split at h
   .rename_i id ver off he
    simp only[he,x1p1,x1p2]at ht
    obtain⟨rfl,rfl⟩:=ht
    split at h
    .split at h
     .cases h
      refine .mk' h0 (λ_ hi=>x17d hi) λobjs2 ha=>?_
      have hid:=ha id (.inr (by simp))
      rw[x17e]
      simp only[ixOp,ho]
      simp_all
     .cases h
    .cases h
   .cases h
  .cases h
 |call c=>
  simp only[ho]at hk
  cases hc:c.callee with
  |builtin b=>
   cases b with
   |append=>
    obtain⟨y,x,hl⟩:∃y x,c.args.toList=[y,x]:=by
     simp only[ixOp,ho,hc,x15q,x183]at h
     split at h
     .rename_i e1 e2
      match hl:c.args.toList,e2 with
      |[y,x],_=>exact⟨y,x,rfl⟩
     .cases h
    simp only[x158,ho,hc,hl,x1p1]at ht
    obtain⟨hR,hW⟩:=ht
    have he:∀objs2:Id->Option Ob,(∀id,id∈R\/id∈W->objs2 id=objs id)->∀z,elems objs2 z (ev sl x)=elems objs z (ev sl x):=by
     intro objs2 ha z
     refine x1fu λid ver off n z' f hx=>ha id (.inl ?_)
     rw[hx]at hR;simp at hR;simp[<-hR]
    have h0:=h
    simp only[ixOp,ho,hc,x15q,x183,hl,x1pi,x1pt]at h
    split at h
    .rename_i t t' s' x' e1 e2
     simp only[x1rl,and_true]at e2
     obtain⟨rfl,rfl⟩:=e2
     split at h
     .rename_i el d hu hud
      split at h
      .rename_i i zc hi hz
       split at h
       .rename_i hcond
        have go:∀{src:Option (List AV×Nat)} {s:AV},(match s with | .sref id _ _ _ _ true=>some [id] | .sref id _ _ _ _ false=>some [id,id0] | .slit .. | .sc _=>some [id0]|_=>none)=some W ->
         (match src with
          |some (src,m)=>match s with
           | .sc (.slice none 0 0)=>if m=0 then some (s,objs)else if x15e m i.bytes then some (AV.sref id0 0 0 m i.size true,updo objs id0 (some (.row src 0 false)))else none
           | .slit cs n true=>if n*i.size<=cs.length then(if m=0 then some (s,objs)else if x15e (n+m) i.bytes then some (.sref id0 0 0 (n+m) i.size true,updo objs id0 (some (.row (cs.take (n*i.size)++src) 0 false)))else none)else none
           | .sref id ver off n z true=>match objs id with
             |some (.row cs v false)=>if v=ver/\z=i.size/\off+n*z<=cs.length/\x15e (n+m) i.bytes then
              if m=0 then some (s,objs)
              else if off+(n+m)*z<=cs.length then some (.sref id ver off (n+m) z true,updo objs id (some (.row (x15h cs (off+n*z) src) v false)))
              else some (.sref id (ver+1) 0 (n+m) z true,updo objs id (some (.row ((cs.drop off).take (n*z)++src) (v+1) false)))
              else none
             |_=>none
           | .sref id ver off n z false=>match objs id with
             |some (.row cs v _)=>if v=ver/\z=i.size/\off+n*z<=cs.length/\x15e (n+m) i.bytes then
              if m=0 then some (s,objs)
              else some (.sref id0 0 0 (n+m) i.size true,updo objs id0 (some (.row ((cs.drop off).take (n*z)++src) 0 false)))
              else none
             |_=>none
           |_=>none
          |none=>none)=some (v,objs') ->
         (∀id,id∉W->objs' id=objs id)/\∀objs2:Id->Option Ob,(∀id,id∈R\/id∈W->objs2 id=objs id) ->
         (match src with
          |some (src,m)=>match s with
           | .sc (.slice none 0 0)=>if m=0 then some (s,objs2)else if x15e m i.bytes then some (AV.sref id0 0 0 m i.size true,updo objs2 id0 (some (.row src 0 false)))else none
           | .slit cs n true=>if n*i.size<=cs.length then(if m=0 then some (s,objs2)else if x15e (n+m) i.bytes then some (.sref id0 0 0 (n+m) i.size true,updo objs2 id0 (some (.row (cs.take (n*i.size)++src) 0 false)))else none)else none
           | .sref id ver off n z true=>match objs2 id with
             |some (.row cs v false)=>if v=ver/\z=i.size/\off+n*z<=cs.length/\x15e (n+m) i.bytes then
              if m=0 then some (s,objs2)
              else if off+(n+m)*z<=cs.length then some (.sref id ver off (n+m) z true,updo objs2 id (some (.row (x15h cs (off+n*z) src) v false)))
              else some (.sref id (ver+1) 0 (n+m) z true,updo objs2 id (some (.row ((cs.drop off).take (n*z)++src) (v+1) false)))
              else none
             |_=>none
           | .sref id ver off n z false=>match objs2 id with
             |some (.row cs v _)=>if v=ver/\z=i.size/\off+n*z<=cs.length/\x15e (n+m) i.bytes then
              if m=0 then some (s,objs2)
              else some (.sref id0 0 0 (n+m) i.size true,updo objs2 id0 (some (.row ((cs.drop off).take (n*z)++src) 0 false)))
              else none
             |_=>none
           |_=>none
          |none=>none)=some (v,λid=>if id∈W then objs' id else objs2 id):=by
         intro src s hW h
         split at h
         .split at h
          .simp only[x1p2]at hW;subst hW
           split at h
           .cases h;exact⟨λ_ _=>rfl,λobjs2 ha=>by rw[x19n ha];simp_all⟩
           .split at h
            .cases h;exact⟨λ_ hi=>x17d hi,λobjs2 ha=>by rw[x17e];simp_all⟩
            .cases h
          .simp only[x1p2]at hW;subst hW
           split at h
           .split at h
            .cases h;exact⟨λ_ _=>rfl,λobjs2 ha=>by rw[x19n ha];simp_all⟩
            .split at h
             .cases h;exact⟨λ_ hi=>x17d hi,λobjs2 ha=>by rw[x17e];simp_all⟩
             .cases h
           .cases h
          .simp only[x1p2]at hW;subst hW
           rename_i id ver off n z
           split at h
           .rename_i cs vv hob
            split at h
            .rename_i hc1
             split at h
             .rename_i hm
              cases h;exact⟨λ_ _=>rfl,λobjs2 ha=>by rw[x19n ha];have hid:=ha id (.inr (by simp));simp only[hid,hob];rw[x1p0 hc1,x1p0 hm]⟩
             .rename_i hm
              split at h
              .rename_i hr
               cases h;exact⟨λ_ hi=>x17d hi,λobjs2 ha=>by rw[x17e];have hid:=ha id (.inr (by simp));simp only[hid,hob];rw[x1p0 hc1,x1oz hm,x1p0 hr]⟩
              .rename_i hr
               cases h;exact⟨λ_ hi=>x17d hi,λobjs2 ha=>by rw[x17e];have hid:=ha id (.inr (by simp));simp only[hid,hob];rw[x1p0 hc1,x1oz hm,x1oz hr]⟩
            .cases h
           .cases h
          .simp only[x1p2]at hW;subst hW
           rename_i id ver off n z
           split at h
           .rename_i cs vv fr hob
            split at h
            .rename_i hc1
             split at h
             .rename_i hm
              cases h;exact⟨λ_ _=>rfl,λobjs2 ha=>by rw[x19n ha];have hid:=ha id (.inr (by simp));simp only[hid,hob];rw[x1p0 hc1,x1p0 hm]⟩
             .rename_i hm
              cases h
              refine⟨λj hi=>?_,λobjs2 ha=>?_⟩
              .unfold updo;rw[x1oz (λe=>hi (by simp[e]))]
              .have hid:=ha id (.inr (by simp))
               simp only[hid,hob]
               rw[x1p0 hc1,x1oz hm]
               congr 2
               funext j
               unfold updo
               by_cases hj:j=id0
               .subst hj;simp
               .by_cases hj2:j=id
                .subst hj2;simp[hj,hid,hob]
                .simp[hj,hj2]
            .cases h
           .cases h
          .cases h
         .cases h
        obtain⟨g1,g2⟩:=go hW h
        refine .mk' h0 g1 λobjs2 ha=>?_
        have:=g2 objs2 ha
        simp only[ixOp,ho,hc,x15q,x183,hl,x1pi,x1pt,e1,hu,hud,hi,hz,he objs2 ha]
        rw[x1p0 hcond]
        exact this
       .cases h
      .cases h
     .cases h
    .cases h
   |copy=>
    obtain⟨y,x,hl⟩:∃y x,c.args.toList=[y,x]:=by
     simp only[ixOp,ho,hc,x15q,x18m]at h
     split at h
     .rename_i e1 e2
      match hl:c.args.toList,e2 with
      |[y,x],_=>exact⟨y,x,rfl⟩
     .cases h
    simp only[x158,ho,hc,hl,x1p1]at ht
    obtain⟨hR,hW⟩:=ht
    have he:∀objs2:Id->Option Ob,(∀id,id∈R\/id∈W->objs2 id=objs id)->∀z,elems objs2 z (ev sl x)=elems objs z (ev sl x):=by
     intro objs2 ha z
     refine x1fu λid ver off n z' f hx=>ha id (.inl ?_)
     rw[hx]at hR;simp at hR;simp[<-hR]
    have h0:=h
    simp only[ixOp,ho,hc,x15q,x18m,hl,x1pi,x1pt]at h
    split at h
    .rename_i t ts s' x' e1 e2
     simp only[x1rl,and_true]at e2
     obtain⟨rfl,rfl⟩:=e2
     split at h
     .rename_i el hu
      split at h
      .rename_i i hi
       split at h
       .rename_i src m hsrc
        split at h
        .rename_i id ver off n z f hs
         rw[hs]at hW
         simp only[x1p2]at hW;subst hW
         split at h
         .rename_i cs vv hob
          split at h
          .rename_i hcond
           cases h
           refine .mk' h0 (λ_ hi=>x17d hi) λobjs2 ha=>?_
           have hid:=ha id (.inr (by simp))
           rw[x17e]
           simp only[ixOp,ho,hc,x15q,x18m,hl,x1pi,x1pt,e1,hu,hi,he objs2 ha,hsrc,hs,hid,hob]
           rw[x1p0 hcond]
          .cases h
         .cases h
        .rename_i hs
         rw[hs]at hW
         simp only[x1p2]at hW;subst hW
         cases h
         refine .mk' h0 (λ_ _=>rfl) λobjs2 ha=>?_
         rw[x19n ha]
         simp only[ixOp,ho,hc,x15q,x18m,hl,x1pi,x1pt,e1,hu,hi,he objs2 ha,hsrc,hs]
        .cases h
       .cases h
      .cases h
     .cases h
    .cases h
   |_=>simp[hc]at hk
  |_=>simp[hc]at hk
 |_=>simp[ho]at hk
theorem x1fv{v:AV}{R W:List Id}(h:ixOp P id0 o sl objs=some (v,objs'))(ht:x158 id0 o sl=(some R,some W))(hm:mapLen P o sl=false):Foot P id0 o sl objs objs' v R W:=by
 cases ho:o.op with
 |alloc _=>have:=ht;simp only[x158,ho,x1p1,x1p2]at this;obtain⟨rfl,rfl⟩:=this;exact x1ax h (by rw[ho])
 |box _ _=>have:=ht;simp only[x158,ho,x1p1,x1p2]at this;obtain⟨rfl,rfl⟩:=this;exact x1ax h (by rw[ho])
 |makeSlice _ _ _=>have:=ht;simp only[x158,ho,x1p1,x1p2]at this;obtain⟨rfl,rfl⟩:=this;exact x1ax h (by rw[ho])
 |makeMap _ _=>have:=ht;simp only[x158,ho,x1p1,x1p2]at this;obtain⟨rfl,rfl⟩:=this;exact x1ax h (by rw[ho])
 |buildSlice _ _ _=>have:=ht;simp only[x158,ho,x1p1,x1p2]at this;obtain⟨rfl,rfl⟩:=this;exact x1ax h (by rw[ho])
 |load _ _=>exact x17y h ht hm (by rw[ho])
 |lookup _ _ _ _=>exact x17y h ht hm (by rw[ho])
 |slice _ _ _ _ _=>exact x17y h ht hm (by rw[ho])
 |store _ _ _=>exact x1de h ht (by rw[ho])
 |call c=>
  cases hc:c.callee with
  |builtin b=>
   cases b with
   |append=>exact x1de h ht (by rw[ho];simp only[hc])
   |copy=>exact x1de h ht (by rw[ho];simp only[hc])
   |len=>exact x17y h ht hm (by rw[ho];simp only[hc])
   |cap=>exact x17y h ht hm (by rw[ho];simp only[hc])
   |real=>exact x17y h ht hm (by rw[ho];simp only[hc])
   |imag=>exact x17y h ht hm (by rw[ho];simp only[hc])
   |complex=>exact x17y h ht hm (by rw[ho];simp only[hc])
   |min=>exact x17y h ht hm (by rw[ho];simp only[hc])
   |max=>exact x17y h ht hm (by rw[ho];simp only[hc])
   |_=>simp[x158,ho,hc]at ht
  |_=>simp[x158,ho,hc]at ht
 |_=>first|exact x1ij (by rw[ho];rfl) hm h|(simp[x158,ho]at ht;done)
end
section
variable{P:Program}{pol:Pol}{call:Hs->FuncId->List AV->St->Option (AV×St)}{c:Ctx}{ops:Array Oper}
noncomputable def exec(P:Program)(pol:Pol)(call:Hs->FuncId->List AV->St->Option (AV×St))(c:Ctx)(ops:Array Oper)(i fc:Nat)(o:Oper)(sl:Nat->AV)(st:St):Option (AV×St):=
 if x16v ops o sl then
  match o.op with
  | .call {callee:=.value fv,args,.. }=>x16d call c.u fc c.hs (nm (pol c.f (o.dst.getD 0))) (ev sl fv) (args.toList.map (ev sl)) st
  | .call {callee:=.invoke rv name,args,.. }=>(x19w P (ev sl rv) name).bind λp=>x15r call c.hs (nm (pol c.f (o.dst.getD 0))) (.clo p.1 []) (p.2::args.toList.map (ev sl)) st
  |_=>(ixOp P (c.u,fc+i,o.dst.getD 0) o sl st.objs).map λp=>(p.1,{st with objs:=p.2})
 else some (.sc undef,st)
theorem x1ay{i:Nat}{o:Oper}{s:S}(ho:ops[i]?=some o):x163 P pol call c ops i s=(exec P pol call c ops i s.fc o s.sl s.st).bind λp=>put c o.dst p.1 {s with st:=p.2}:=by
 unfold x163 exec
 simp only[ho]
 split
 .split
  .rename_i fv args ats hop
   simp only[hop]
   cases x16d call c.u s.fc c.hs (nm (pol c.f (o.dst.getD 0))) (ev s.sl fv) (args.toList.map (ev s.sl)) s.st<;>rfl
  .rename_i rv name args ats hop
   simp only[hop]
   cases hm:x19w P (ev s.sl rv) name with
   |none=>rfl
   |some p=>
    simp only[x1ri]
    cases x15r call c.hs (nm (pol c.f (o.dst.getD 0))) (.clo p.1 []) (p.2::args.toList.map (ev s.sl)) s.st<;>rfl
  .rename_i hn hn2
   split
   .rename_i v objs' he
    split
    .rename_i fv args ats hop;exact absurd hop (hn fv args ats)
    .rename_i rv name args ats hop;exact absurd hop (hn2 rv name args ats)
    .simp[he]
   .rename_i he
    split
    .rename_i fv args ats hop;exact absurd hop (hn fv args ats)
    .rename_i rv name args ats hop;exact absurd hop (hn2 rv name args ats)
    .simp[he]
 .rfl
def x193(ops:Array Oper)(o:Oper)(sl sl2:Nat->AV):Prop:=∀t∈o.looksAt ops,sl2 t=sl t
theorem x1a7{o:Oper}{sl sl2:Nat->AV}(h:x193 ops o sl sl2):∀x∈o.op.operands.toList,ev sl2 x=ev sl x:=by
 intro x hx
 cases x with
 |tmp t=>exact h t (by simp only[Oper.looksAt,x1qh,List.mem_filterMap];exact .inl ⟨_,hx,rfl⟩)
 |_=>rfl
theorem x1ik{o:Oper}{sl sl2:Nat->AV}(h:x193 ops o sl sl2):x16v ops o sl2=x16v ops o sl:=by
 unfold x16v
 cases hg:o.guard with
 |none=>rfl
 |some g=>
  obtain⟨j,want⟩:=g
  simp only
  cases hj:(ops[j]?).bind (·.dst)with
  |none=>rfl
  |some t=>
   simp only
   rw[h t (by simp[Oper.looksAt,hg,hj])]
theorem x1fw{i fc:Nat}{o:Oper}{sl sl2:Nat->AV}{st:St}(h:x193 ops o sl sl2):exec P pol call c ops i fc o sl2 st=exec P pol call c ops i fc o sl st:=by
 unfold exec
 rw[x1ik h]
 split
 .split
  .rename_i fv args ats hop
   have he:=x1a7 h
   simp only[hop,Op.operands,Call.operands]at he
   rw[he fv (by simp),x1aw (λx hx=>he x (by simp;right;simpa using hx))]
  .rename_i rv name args ats hop
   have he:=x1a7 h
   simp only[hop,Op.operands,Call.operands]at he
   rw[he rv (by simp),x1aw (λx hx=>he x (by simp;right;simpa using hx))]
  .rw[x1ii (x1a7 h)]
 .rfl
theorem x1fx{id0:Id}{o:Oper}{sl sl2:Nat->AV}(h:x193 ops o sl sl2):x158 id0 o sl2=x158 id0 o sl:=by
 have he:=x1a7 h
 unfold x158
 cases ho:o.op with
 |call cl=>
  simp only[ho,Op.operands,Call.operands]at he
  cases hc:cl.callee with
  |builtin b=>
   have ha:∀x∈cl.args.toList,ev sl2 x=ev sl x:=λx hx=>he x (by simp;right;simpa using hx)
   simp only[hc]
   match hl:cl.args.toList with
   |[]=>rfl
   |[x]=>rfl
   |[x,y]=>rw[hl]at ha;simp only[ha x (by simp),ha y (by simp)]
   |_::_::_::_=>rfl
  |_=>simp only[hc]
 |_=>simp only[ho,Op.operands]at he;simp at he;simp only[he]
theorem x1fy{m:Nat}{o:Oper}{sl sl2:Nat->AV}(h:x193 ops o sl sl2):meek m o sl2=meek m o sl:=by
 have he:=x1a7 h
 unfold meek
 cases ho:o.op with
 |call cl=>
  simp only[ho,Op.operands,Call.operands]at he
  cases hc:cl.callee with
  |value fv=>
   simp only[hc]at he ⊢
   rw[he fv (by simp),x1aw (λx hx=>he x (by simp;right;simpa using hx))]
  |_=>simp only[hc]
 |_=>simp only[ho]
theorem x19o{i fc:Nat}{o:Oper}{sl:Nat->AV}{st st':St}{v:AV}{R W:List Id}(hn:x15j o=false)(h:exec P pol call c ops i fc o sl st=some (v,st'))(ht:x158 (c.u,fc+i,o.dst.getD 0) o sl=(some R,some W))(hm:mapLen P o sl=false) :
 st'.next=st.next/\(∀id,id∉W->st'.objs id=st.objs id)/\∀st2:St,(∀id,id∈R\/id∈W->st2.objs id=st.objs id)->∃st2',exec P pol call c ops i fc o sl st2=some (v,st2')/\st2'.next=st2.next/\(∀id∈W,st2'.objs id=st'.objs id)/\∀id,id∉W->st2'.objs id=st2.objs id:=by
 unfold exec at h ⊢
 split at h
 .rename_i hw
  split at h
  .rename_i fv args ats hop
   simp[x15j,hop]at hn
  .rename_i rv name args ats hop
   simp[mapLen,hop]at hm
  .rename_i hnc hnc2
   simp only[x1p3,x1p1]at h
   obtain⟨p,hp,rfl,rfl⟩:=h
   obtain⟨f1,f2⟩:=x1fv (v:=p.1) (objs':=p.2) hp ht hm
   refine⟨rfl,f1,λst2 ha=>?_⟩
   obtain⟨objs2',g1,g2,g3⟩:=f2 st2.objs ha
   refine⟨{st2 with objs:=objs2' },?_,rfl,g2,g3⟩
   rw[x1p0 hw,g1]
   rfl
 .rename_i hw
  cases h
  exact⟨rfl,λ_ _=>rfl,λst2 ha=>⟨st2,by rw[x1oz hw],rfl,λid hid=>ha id (.inr hid),λ_ _=>rfl⟩⟩
theorem St.ext'{a b:St}(h:∀id,a.objs id=b.objs id)(h':a.next=b.next):a=b:=by
 cases a;cases b;simp at h';subst h';congr;funext i;exact h i
end
theorem x19p{α β:Type}{f g:α->Option β}:∀{l:List α},(∀a∈l,f a=g a)->l.mapM f=l.mapM g
 |[],_=>rfl
 |a::l,h=>by rw[x1qr,x1qr,h a (by simp),x19p λb hb=>h b (x1p7 _ hb)]
section
variable{objs objs2:Id->Option Ob}
theorem flat_frz{k:Nat}{a:AV}(h:(match a with | .sc _ | .slit ..=>true|_=>false)=true):frz objs (k+1) a=frz objs2 (k+1) a/\x14y objs (k+1) a=[]:=by
 cases a<;>simp at h<;>exact⟨by simp[frz],by simp[x14y]⟩
theorem x1fz{k:Nat}{a:AV}(h:clean1 a=true):frz objs (k+2) a=frz objs2 (k+2) a/\x14y objs (k+2) a=[]:=by
 cases a with
 |sc _=>exact⟨by simp[frz],by simp[x14y]⟩
 |slit _ _ _=>exact⟨by simp[frz],by simp[x14y]⟩
 |plit _=>exact⟨by simp[frz],by simp[x14y]⟩
 |un _=>exact⟨by simp[frz],by simp[x14y]⟩
 |clo f cs=>
  simp only[clean1]at h
  have hc:=λx hx=>flat_frz (objs:=objs) (objs2:=objs2) (k:=k) (x1p5.1 h x hx)
  refine⟨?_,?_⟩
  .show(cs.mapM (frz objs (k+1))).map (AV.clo f)=(cs.mapM (frz objs2 (k+1))).map (AV.clo f)
   rw[x19p λx hx=>(hc x hx).1]
  .show cs.flatMap (x14y objs (k+1))=[]
   rw[x1rk]
   exact λx hx=>(hc x hx).2
 |_=>simp[clean1]at h
theorem x1g0{k:Nat}{a:AV}(h:clean a=true):frz objs (k+3) a=frz objs2 (k+3) a/\x14y objs (k+3) a=[]:=by
 cases a with
 |agg cs=>
  simp only[clean]at h
  have hc:=λx hx=>x1fz (objs:=objs) (objs2:=objs2) (k:=k) (x1p5.1 h x hx)
  refine⟨?_,?_⟩
  .show(cs.mapM (frz objs (k+2))).map AV.agg=(cs.mapM (frz objs2 (k+2))).map AV.agg
   rw[x19p λx hx=>(hc x hx).1]
  .show cs.flatMap (x14y objs (k+2))=[]
   rw[x1rk]
   exact λx hx=>(hc x hx).2
 |sc _=>exact⟨by simp[frz],by simp[x14y]⟩
 |slit _ _ _=>exact⟨by simp[frz],by simp[x14y]⟩
 |plit _=>exact⟨by simp[frz],by simp[x14y]⟩
 |un _=>exact⟨by simp[frz],by simp[x14y]⟩
 |clo f cs=>exact x1fz (k:=k+1) h
 |_=>simp[clean,clean1]at h
theorem x1g1{l:List AV}(h:l.all clean=true):l.mapM (frz objs deep)=l.mapM (frz objs2 deep)/\l.flatMap (x14y objs deep)=[]:=
 ⟨x19p λx hx=>(x1g0 (k:=3) (x1p5.1 h x hx)).1,by
  simp only[x1rk]
  exact λx hx=>(x1g0 (objs:=objs) (objs2:=objs) (k:=3) (x1p5.1 h x hx)).2⟩
end
section
variable{P:Program}{pol:Pol}{call:Hs->FuncId->List AV->St->Option (AV×St)}{c:Ctx}{ops:Array Oper}
theorem x1g2{i fc:Nat}{o:Oper}{sl:Nat->AV}{st st':St}{v:AV}(hm:meek (nm (pol c.f (o.dst.getD 0))) o sl≠0)(h:exec P pol call c ops i fc o sl st=some (v,st')) :
 (∀id:Id,id.1<st.next->st'.objs id=st.objs id)/\(meek (nm (pol c.f (o.dst.getD 0))) o sl=2->∀st2:St,st2.next=st.next->∃st2',exec P pol call c ops i fc o sl st2=some (v,st2')/\st2'.next=st'.next /\
  (∀id:Id,id.1<st.next->st2'.objs id=st2.objs id)/\∀id:Id,st.next<=id.1->st2.objs id=st.objs id->st2'.objs id=st'.objs id):=by
 cases ho:o.op with
 |call cl=>
  cases hc:cl.callee with
  |value fv=>
   cases hf:ev sl fv with
   |clo g caps=>
    simp only[meek,ho,hc,hf]at hm ⊢
    unfold exec at h ⊢
    split at h
    .rename_i hw
     obtain⟨callee,args,ats⟩:=cl
     simp only at hc
     subst hc
     have n9:nm (pol c.f (o.dst.getD 0))≠9:=λe=>by simp[e]at hm
     simp only[ho,hf,x16d,x1oz n9,x15r]at h ⊢
     split at h
     .rename_i hmode
      simp only[hmode]at hm ⊢
      simp only[show ¬((0:Nat)=3\/(0:Nat)=4) by omega,x1p9]at hm ⊢
      split at hm
      .rename_i hcl
       rw[x1p0 hcl]
       have hca:=hcl.2
       have hsh:∀st:St,({st with objs:=shut ((args.toList.map (ev sl)++caps).flatMap (x14y st.objs deep)) st.objs}:St)=st:=by
        intro st
        rw[(x1g1 (objs:=st.objs) (objs2:=st.objs) hca).2]
        exact St.ext' (λid=>by simp[shut]) rfl
       split at h
       .rename_i l hl
        split at h
        .rename_i r0 stc hcall
         simp only[x1p3,x1p1]at h
         obtain⟨r',hr',rfl,rfl⟩:=h
         rw[hsh]
         refine⟨λ_ _=>rfl,λ_ st2 hn=>⟨st2,?_,hn,λ_ _=>rfl,λ_ _ e=>e⟩⟩
         rw[x1p0 hw,(x1g1 (objs:=st2.objs) (objs2:=st.objs) hca).1,hl]
         simp only[hcall,hr',Option.map_some]
         rw[hsh]
        .cases h
       .cases h
      .exact absurd rfl hm
     .rename_i hmode
      simp only[hmode]at hm ⊢
      split at h
      .split at h
       .split at h
        .cases h
         exact⟨λ_ _=>rfl,λe=>by simp at e⟩
        .cases h
       .cases h
      .cases h
     .rename_i hmode
      simp only[hmode]at hm ⊢
      split at h
      .split at h
       .split at h
        .rename_i hp
         cases h
         refine⟨λid hid=>?_,λe=>by simp at e⟩
         simp only
         split
         .rename_i hr
          simp only[x1p4]at hp
          have:=x1p5.1 hp.2 id hr
          simp only[x1p4,x1qf]at this
          omega
         .rfl
        .cases h
       .cases h
      .cases h
     .rename_i hmode
      simp only[hmode]at hm ⊢
      simp only[show ¬((1:Nat)=3\/(1:Nat)=4) by omega,x1p9]at hm ⊢
      split at hm
      .rename_i hcl
       rw[x1p0 hcl]
       have hca:=hcl.2
       rw[x1p0 hca]at h
       split at h
       .rename_i r0 stc hcall
        cases h
        refine⟨λid hid=>?_,λ_ st2 hn=>⟨{objs:=λi=>if st.next<=i.1 then stc.objs i else st2.objs i,next:=stc.next},?_,rfl,λid hid=>?_,λid hid _=>?_⟩⟩
        .simp only;rw[x1oz (by omega)]
        .rw[x1p0 hw,x1p0 hca,hn,hcall]
        .simp only;rw[x1oz (by omega)]
        .simp only;rw[x1p0 (by omega),x1p0 (by omega)]
       .cases h
      .exact absurd rfl hm
     .rename_i n0 n3 n4 n1
      exfalso
      split at hm
      .rename_i e;rcases e with e|e
       .exact n3 e
       .exact n4 e
      .split at hm
       .rename_i e
        have:=e.1
        rcases x1pq (nm (pol c.f (o.dst.getD 0))) 1 with h'|h'
        .exact n0 (by omega)
        .exact n1 (by omega)
       .exact absurd rfl hm
    .rename_i hw
     cases h
     exact⟨λ_ _=>rfl,λ_ st2 hn=>⟨st2,by rw[x1oz hw],hn,λ_ _=>rfl,λ_ _ e=>e⟩⟩
   |_=>simp[meek,ho,hc,hf]at hm
  |_=>simp[meek,ho,hc]at hm
 |_=>simp[meek,ho]at hm
end
theorem x1az{a b:List Id}(h:disj a b=true):∀i∈a,i∉b:=λi hi hb=>by
 have:=x1p5.1 h i hi
 simp at this
 exact this hb
section
variable{P:Program}{pol:Pol}{call:Hs->FuncId->List AV->St->Option (AV×St)}{c:Ctx}{ops:Array Oper}
theorem swap_ops{i j fc:Nat}{x y:Oper}{sl:Nat->AV}{st st1 st2:St}{v u:AV}(hmx:mapLen P x sl=false)(hmy:mapLen P y sl=false)(hnx:x15j x=false)(hny:x15j y=false)(hx:exec P pol call c ops i fc x sl st=some (v,st1))(hy:exec P pol call c ops j fc y sl st1=some (u,st2))(ha:x153 (x158 (c.u,fc+i,x.dst.getD 0) x sl) (x158 (c.u,fc+j,y.dst.getD 0) y sl)=true) :
 ∃st1',exec P pol call c ops j fc y sl st=some (u,st1')/\exec P pol call c ops i fc x sl st1'=some (v,st2):=by
 have caseX:x158 (c.u,fc+i,x.dst.getD 0) x sl=(some [],some [])->∃st1',exec P pol call c ops j fc y sl st=some (u,st1')/\exec P pol call c ops i fc x sl st1'=some (v,st2):=by
  intro ht
  obtain⟨f1,f2,f3⟩:=x19o hnx hx ht hmx
  have:st1=st:=St.ext' (λid=>f2 id (by simp)) f1
  subst this
  obtain⟨st2',g1,g2,_,g4⟩:=f3 st2 (by simp)
  have:st2'=st2:=St.ext' (λid=>g4 id (by simp)) g2
  subst this
  exact⟨st2',hy,g1⟩
 have caseY:x158 (c.u,fc+j,y.dst.getD 0) y sl=(some [],some [])->∃st1',exec P pol call c ops j fc y sl st=some (u,st1')/\exec P pol call c ops i fc x sl st1'=some (v,st2):=by
  intro ht
  obtain⟨f1,f2,f3⟩:=x19o hny hy ht hmy
  have:st2=st1:=St.ext' (λid=>f2 id (by simp)) f1
  subst this
  obtain⟨st',g1,g2,_,g4⟩:=f3 st (by simp)
  have:st'=st:=St.ext' (λid=>g4 id (by simp)) g2
  subst this
  exact⟨st',g1,hx⟩
 unfold x153 at ha
 split at ha
 .rename_i e;exact caseX e
 .rename_i e _;exact caseY e
 .rename_i R1 W1 R2 W2 _ _ e1 e2
  simp only[x1p4]at ha
  obtain⟨⟨d1,d2⟩,d3⟩:=ha
  obtain⟨f1,f2,f3⟩:=x19o hnx hx e1 hmx
  obtain⟨g1,g2,g3⟩:=x19o hny hy e2 hmy
  obtain⟨st1',k1,k2,k3,k4⟩:=g3 st (λid hid=>(f2 id (by
   rcases hid with hid|hid
   .exact x1az d2 id hid
   .exact λh=>x1az d3 id h hid)).symm)
  obtain⟨st2',q1,q2,q3,q4⟩:=f3 st1' (λid hid=>k4 id (by
   rcases hid with hid|hid
   .exact x1az d1 id hid
   .exact x1az d3 id hid))
  have:st2'=st2:=St.ext' (λid=>by
   by_cases h1:id∈W1
   .rw[q3 id h1,g2 id (x1az d3 id h1)]
   .rw[q4 id h1]
    by_cases h2:id∈W2
    .rw[k3 id h2]
    .rw[k4 id h2,g2 id h2,f2 id h1]) (by rw[q2,k2,g1,f1])
  subst this
  exact⟨st1',k1,q1⟩
 .cases ha
theorem x1il{i j fc next0:Nat}{x y:Oper}{sl:Nat->AV}{st st1 st2:St}{v u:AV}(hmy:mapLen P y sl=false)(hx:exec P pol call c ops i fc x sl st=some (v,st1))(hy:exec P pol call c ops j fc y sl st1=some (u,st2))(hn:next0<=st.next)(ha:x17i (nm (pol c.f (x.dst.getD 0))) (some next0) (c.u,fc+j,y.dst.getD 0) x y sl=true) :
 ∃st1',exec P pol call c ops j fc y sl st=some (u,st1')/\exec P pol call c ops i fc x sl st1'=some (v,st2):=by
 unfold x17i at ha
 simp only[x1p4,x1rv]at ha
 obtain⟨hny,ha⟩:=ha
 split at ha
 .rename_i R W e2
  simp only[x1p4,x1pw,beq_iff_eq]at ha
  obtain⟨hlim,hm⟩:=ha
  have hlt:∀id:Id,id∈R\/id∈W->id.1<st.next:=λid hid=>by
   have:=x1p5.1 hlim id (x1qh.2 hid)
   simp at this;omega
  have hm0:meek (nm (pol c.f (x.dst.getD 0))) x sl≠0:=by rcases hm with h|⟨h,_⟩<;>rw[h]<;>simp
  obtain⟨m1,m2⟩:=x1g2 hm0 hx
  obtain⟨g1,g2,g3⟩:=x19o hny hy e2 hmy
  obtain⟨st1',k1,k2,k3,k4⟩:=g3 st (λid hid=>(m1 id (hlt id hid)).symm)
  rcases hm with h2|⟨_,hw⟩
  .obtain⟨st2',q1,q2,q3,q4⟩:=m2 h2 st1' k2
   have:st2'=st2:=St.ext' (λid=>by
    by_cases hid:id.1<st.next
    .rw[q3 id hid]
     by_cases hw:id∈W
     .exact k3 id hw
     .rw[k4 id hw,g2 id hw,m1 id hid]
    .have hw:id∉W:=λh=>hid (hlt id (.inr h))
     rw[q4 id (by omega) (k4 id hw),g2 id hw]) (by rw[q2,g1])
   subst this
   exact⟨st1',k1,q1⟩
  .have:W=[]:=by simpa using hw
   subst this
   have e1:st1'=st:=St.ext' (λid=>k4 id (by simp)) k2
   have e3:st2=st1:=St.ext' (λid=>g2 id (by simp)) g1
   subst e1 e3
   exact⟨st1',k1,hx⟩
 .cases ha
theorem x1im{i j fc:Nat}{x y:Oper}{sl:Nat->AV}{st st1 st2:St}{v u:AV}(hmx:mapLen P x sl=false)(hx:exec P pol call c ops i fc x sl st=some (v,st1))(hy:exec P pol call c ops j fc y sl st1=some (u,st2))(hb:∀R W:List Id,x158 (c.u,fc+i,x.dst.getD 0) x sl=(some R,some W)->∀id:Id,id∈R\/id∈W->id.1<st.next)(ha:x17i (nm (pol c.f (y.dst.getD 0))) none (c.u,fc+i,x.dst.getD 0) y x sl=true) :
 ∃st1',exec P pol call c ops j fc y sl st=some (u,st1')/\exec P pol call c ops i fc x sl st1'=some (v,st2):=by
 unfold x17i at ha
 simp only[x1p4,x1rv]at ha
 obtain⟨hnx,ha⟩:=ha
 split at ha
 .rename_i R W e1
  simp only[x1q0,x1p4,x1pw,beq_iff_eq]at ha
  have hm:=ha
  have hlt:=hb R W e1
  have hm0:meek (nm (pol c.f (y.dst.getD 0))) y sl≠0:=by rcases hm with h|⟨h,_⟩<;>rw[h]<;>simp
  obtain⟨m1,m2⟩:=x1g2 hm0 hy
  obtain⟨f1,f2,f3⟩:=x19o hnx hx e1 hmx
  rcases hm with h2|⟨_,hw⟩
  .obtain⟨st1',q1,q2,q3,q4⟩:=m2 h2 st f1.symm
   obtain⟨st2',k1,k2,k3,k4⟩:=f3 st1' (λid hid=>q3 id (by rw[f1];exact hlt id hid))
   have:st2'=st2:=St.ext' (λid=>by
    by_cases hw:id∈W
    .rw[k3 id hw,m1 id (by rw[f1];exact hlt id (.inr hw))]
    .rw[k4 id hw]
     by_cases hid:id.1<st1.next
     .rw[q3 id hid,m1 id hid,f2 id hw]
     .rw[q4 id (by omega) (f2 id hw).symm]) (by rw[k2,q2])
   subst this
   exact⟨st1',q1,k1⟩
  .have:W=[]:=by simpa using hw
   subst this
   have e3:st1=st:=St.ext' (λid=>f2 id (by simp)) f1
   subst e3
   obtain⟨st2',k1,k2,k3,k4⟩:=f3 st2 (λid hid=>m1 id (hlt id hid))
   have:st2'=st2:=St.ext' (λid=>k4 id (by simp)) k2
   subst this
   exact⟨st2',hy,k1⟩
 .cases ha
end
section
variable{P:Program}{pol:Pol}{call:Hs->FuncId->List AV->St->Option (AV×St)}{c:Ctx}{ops:Array Oper}
def Good(P:Program)(c:Ctx)(L:List Nat)(s:S):Prop:=
 ∃E w tmps,Sim E w s.st/\Tm E w c.nt s.sl tmps/\HsOK P c.hs E w/\c.u<s.st.next/\Used E c.u (λn=>∀i∈L,n≠s.fc+i)
theorem x1g3(hc:x169 P call){L L':List Nat}{i:Nat}{s s':S}(hg:Good P c L s)(hi:i∈L)(h:x163 P pol call c ops i s=some s')(hL:∀j∈L',j∈L/\j≠i):Good P c L' s'/\s.st.next<=s'.st.next:=by
 obtain⟨E,w,tmps,hS,hT,hH,hu,hU⟩:=hg
 obtain⟨hled,hfc⟩:=step_ok (a:={tmps,defers:=[]}) (b:=default) (k:=[]) (rest:=[]) hc hS hT hH hu (λid ver hn hi'=>hU id ver hn hi' i hi) h
 obtain⟨a',E',w',_,_,h3,h4⟩:=hled []
 refine⟨⟨E',w',a'.tmps,h4.sim,h3,hH.later hS h4.later,x1pl hu h4.next,h4.used hu hU λn hn j hj=>?_⟩,h4.next⟩
 obtain⟨h5,h6⟩:=hL j hj
 rw[hfc]
 rcases hn with hn|hn
 .exact hn j h5
 .rw[hn];omega
theorem touch_lt{L:List Nat}{s:S}(hg:Good P c L s){i:Nat}{o:Oper}{R W:List Id}(ht:x158 (c.u,s.fc+i,o.dst.getD 0) o s.sl=(some R,some W)):∀id:Id,id∈R\/id∈W->id.1<s.st.next:=by
 obtain⟨E,w,tmps,hS,hT,hH,hu,hU⟩:=hg
 have hev:∀x,E.V w (ev s.sl x) (({tmps,defers:=[]}:Act).eval x):=hT.ev (a:={tmps,defers:=[]})
 have hp:∀x id ver off,ev s.sl x=.ptr id ver off->id.1<s.st.next:=λx id ver off e=>by
  have:=hev x;rw[e]at this;obtain⟨_,_,_,h,_⟩:=x17w this;exact hS.dom _ _ _ h
 have hm:∀x id,ev s.sl x=.mp id->id.1<s.st.next:=λx id e=>by
  have:=hev x;rw[e]at this;obtain⟨_,h,_⟩:=V_mp this;exact hS.dom _ _ _ h
 have hr:∀x id ver off n z f,ev s.sl x=.sref id ver off n z f->id.1<s.st.next:=λx id ver off n z f e=>by
  have:=hev x;rw[e]at this;obtain⟨_,_,_,_,_,h,_⟩:=x16j this;exact hS.dom _ _ _ h
 have fin:∀{R0 W0:List Id},(∀id∈R0,id.1<s.st.next)->(∀id∈W0,id.1<s.st.next)->(some R0,some W0)=(some R,some W)->∀id:Id,id∈R\/id∈W->id.1<s.st.next:=by
  intro R0 W0 h1 h2 e id hid
  simp only[x1p1,x1p2]at e
  obtain⟨rfl,rfl⟩:=e
  exact hid.elim (h1 id) (h2 id)
 have one:∀{id0:Id},id0.1<s.st.next->∀id∈[id0],id.1<s.st.next:=λh id hid=>by simp at hid;rw[hid];exact h
 unfold x158 at ht
 split at ht
 .split at ht
  .rename_i e;exact fin (one (hp _ _ _ _ e)) (by simp) ht
  .exact fin (by simp) (by simp) ht
 .split at ht
  .rename_i e;exact fin (by simp) (one (hp _ _ _ _ e)) ht
  .cases ht
 .exact fin (by simp) (one hu) ht
 .exact fin (by simp) (one hu) ht
 .exact fin (by simp) (one hu) ht
 .exact fin (by simp) (one hu) ht
 .exact fin (by simp) (one hu) ht
 .split at ht
  .rename_i e;exact fin (one (hm _ _ e)) (by simp) ht
  .exact fin (by simp) (by simp) ht
 .split at ht
  .rename_i e;exact fin (one (hp _ _ _ _ e)) (by simp) ht
  .exact fin (by simp) (by simp) ht
 all_goals try exact fin (by simp) (by simp) ht
 .rename_i cl _
  split at ht
  .rename_i b _
   have hrs:∀{y:Operand} {R0:List Id},(match ev s.sl y with | .sref id ..=>some [id] | .slit .. | .sc _=>some []|_=>none)=some R0->∀id∈R0,id.1<s.st.next:=by
    intro y R0 h
    split at h
    .rename_i e;cases h;exact one (hr _ _ _ _ _ _ _ e)
    .cases h;simp
    .cases h;simp
    .cases h
   have hwa:∀{y:Operand} {R0:List Id},(match ev s.sl y with | .sref id _ _ _ _ true=>some [id] | .sref id _ _ _ _ false=>some [id,(c.u,s.fc+i,o.dst.getD 0)] | .slit .. | .sc _=>some [(c.u,s.fc+i,o.dst.getD 0)]|_=>none)=some R0->∀id∈R0,id.1<s.st.next:=by
    intro y R0 h
    split at h
    .rename_i e;cases h;exact one (hr _ _ _ _ _ _ _ e)
    .rename_i e;cases h
     intro id hid
     rcases x1pd.mp hid with rfl|hid
     .exact hr _ _ _ _ _ _ _ e
     .exact one hu id hid
    .cases h;exact one hu
    .cases h;exact one hu
    .cases h
   have hwc:∀{y:Operand} {R0:List Id},(match ev s.sl y with | .sref id ..=>some [id] | .sc _=>some []|_=>none)=some R0->∀id∈R0,id.1<s.st.next:=by
    intro y R0 h
    split at h
    .rename_i e;cases h;exact one (hr _ _ _ _ _ _ _ e)
    .cases h;simp
    .cases h
   cases b with
   |len=>exact fin (by simp) (by simp) ht
   |min=>exact fin (by simp) (by simp) ht
   |max=>exact fin (by simp) (by simp) ht
   |cap=>exact fin (by simp) (by simp) ht
   |real=>exact fin (by simp) (by simp) ht
   |imag=>exact fin (by simp) (by simp) ht
   |complex=>exact fin (by simp) (by simp) ht
   |append=>
    match hl:cl.args.toList with
    |[x,y]=>
     rw[hl]at ht
     simp only[x1p1]at ht
     exact λid hid=>hid.elim (hrs ht.1 id) (hwa ht.2 id)
    |[]=>rw[hl]at ht;simp at ht
    |[_]=>rw[hl]at ht;simp at ht
    |_::_::_::_=>rw[hl]at ht;simp at ht
   |copy=>
    match hl:cl.args.toList with
    |[x,y]=>
     rw[hl]at ht
     simp only[x1p1]at ht
     exact λid hid=>hid.elim (hrs ht.1 id) (hwc ht.2 id)
    |[]=>rw[hl]at ht;simp at ht
    |[_]=>rw[hl]at ht;simp at ht
    |_::_::_::_=>rw[hl]at ht;simp at ht
   |_=>simp at ht
  .cases ht
 .cases ht
def setd(d:Option Tmp)(v:AV)(sl:Nat->AV):Nat->AV:=
 match d with
 |some t=>upd sl t v
 |none=>sl
theorem x1df{d:Option Tmp}{v:AV}{s s':S}(h:Ix.put c d v s=some s'):(∀t,d=some t->t<c.nt)/\s'={s with sl:=setd d v s.sl}:=by
 cases d with
 |none=>simp[Ix.put]at h;subst h;exact⟨by simp,rfl⟩
 |some t=>
  simp only[Ix.put]at h
  split at h
  .rename_i ht;cases h;exact⟨λt' e=>by cases e;exact ht,rfl⟩
  .cases h
theorem put_of{d:Option Tmp}{v:AV}{s:S}(h:∀t,d=some t->t<c.nt):Ix.put c d v s=some {s with sl:=setd d v s.sl}:=by
 cases d with
 |none=>rfl
 |some t=>simp[Ix.put,h t rfl,setd]
theorem setd_comm{sl:Nat->AV}{a b:Option Tmp}{v u:AV}(h:∀d,a=some d->b≠some d):setd b u (setd a v sl)=setd a v (setd b u sl):=by
 cases a with
 |none=>rfl
 |some d=>
  cases b with
  |none=>rfl
  |some e=>
   have hne:d≠e:=λh'=>h d rfl (by rw[h'])
   funext t
   simp only[setd,upd]
   by_cases h1:t=e
   .rw[x1p0 h1,x1oz (λe2=>hne (e2.symm.trans h1)),x1p0 h1]
   .rw[x1oz h1,x1oz h1]
end
section
variable{E:Env}{w:World}{st:St}
theorem x1bw{f g:AV->List Id}:∀{l:List AV},(∀a∈l,f a=g a)->l.flatMap f=l.flatMap g
 |[],_=>rfl
 |a::l,h=>by rw[x1ps,x1ps,h a (by simp),x1bw λb hb=>h b (x1p7 _ hb)]
theorem x1dg(hS:Sim E w st){id0:Id}(h0:∀ver,E.η id0 ver=none)(o:Option Ob):∀(k:Nat) (a:AV) (u:Value),E.V w a u ->
 frz (updo st.objs id0 o) k a=frz st.objs k a/\x14y (updo st.objs id0 o) k a=x14y st.objs k a/\id0∉x14y st.objs k a
 |0,a,u,_=>by simp[frz,x14y]
 |k+1,a,u,hV=>by
  have many:∀(cs:List AV) (vs:Array Value),(∀(i:Nat) (a:AV),cs[i]?=some a->∃v,vs[i]?=some v/\E.V w a v) ->
   cs.mapM (frz (updo st.objs id0 o) k)=cs.mapM (frz st.objs k)/\cs.flatMap (x14y (updo st.objs id0 o) k)=cs.flatMap (x14y st.objs k)/\id0∉cs.flatMap (x14y st.objs k):=by
   intro cs vs h
   have one:∀a∈cs,frz (updo st.objs id0 o) k a=frz st.objs k a/\x14y (updo st.objs id0 o) k a=x14y st.objs k a/\id0∉x14y st.objs k a:=by
    intro a ha
    obtain⟨i,hi⟩:=x1rd.1 ha
    obtain⟨v,_,hv⟩:=h i a hi
    exact x1dg hS h0 o k a v hv
   refine⟨x19p λa ha=>(one a ha).1,x1bw λa ha=>(one a ha).2.1,λhm=>?_⟩
   obtain⟨a,ha,hm⟩:=x1qe.1 hm
   exact(one a ha).2.2 hm
  have cell:∀(id:Id) (cs:List AV) (ver:Nat) (fr:Bool),st.objs id=some (.row cs ver fr)->∀a∈cs,∃v,E.V w a v:=by
   intro id cs ver fr hob a ha
   obtain⟨blk,base,arr,t,h1,h2,h3,h4,h5,h6⟩:=hS.obj id _ hob
   obtain⟨i,hi⟩:=x1rd.1 ha
   obtain⟨v,_,hv,_⟩:=h5 i a hi
   exact⟨v,hv⟩
  have many2:∀(cs:List AV),(∀a∈cs,∃v,E.V w a v) ->
   cs.mapM (frz (updo st.objs id0 o) k)=cs.mapM (frz st.objs k)/\cs.flatMap (x14y (updo st.objs id0 o) k)=cs.flatMap (x14y st.objs k)/\id0∉cs.flatMap (x14y st.objs k):=by
   intro cs h
   have one:∀a∈cs,frz (updo st.objs id0 o) k a=frz st.objs k a/\x14y (updo st.objs id0 o) k a=x14y st.objs k a/\id0∉x14y st.objs k a:=λa ha=>by
    obtain⟨v,hv⟩:=h a ha
    exact x1dg hS h0 o k a v hv
   refine⟨x19p λa ha=>(one a ha).1,x1bw λa ha=>(one a ha).2.1,λhm=>?_⟩
   obtain⟨a,ha,hm⟩:=x1qe.1 hm
   exact(one a ha).2.2 hm
  cases a with
  |sc v=>simp[frz,x14y]
  |slit _ _ _=>simp[frz,x14y]
  |plit _=>simp[frz,x14y]
  |un _=>simp[frz,x14y]
  |yld _=>simp[frz,x14y]
  |mp _=>simp[frz,x14y]
  |agg cs=>
   obtain⟨vs,_,_,h⟩:=V_agg hV
   obtain⟨g1,g2,g3⟩:=many cs vs h
   refine⟨?_,g2,g3⟩
   show(cs.mapM (frz (updo st.objs id0 o) k)).map AV.agg=_
   rw[g1];rfl
  |tup cs=>
   obtain⟨vs,_,_,h⟩:=V_tup hV
   obtain⟨g1,g2,g3⟩:=many cs vs h
   refine⟨?_,g2,g3⟩
   show(cs.mapM (frz (updo st.objs id0 o) k)).map AV.tup=_
   rw[g1];rfl
  |clo f cs=>
   obtain⟨vs,_,_,h⟩:=x19g hV
   obtain⟨g1,g2,g3⟩:=many cs vs h
   refine⟨?_,g2,g3⟩
   show(cs.mapM (frz (updo st.objs id0 o) k)).map (AV.clo f)=_
   rw[g1];rfl
  |sref id ver off n z x=>
   obtain⟨blk,base,len,a,cap,hη,_⟩:=x16j hV
   have hne:id≠id0:=by rintro rfl;rw[h0]at hη;cases hη
   have he:updo st.objs id0 o id=st.objs id:=by simp[updo,hne]
   have hne':id0≠id:=Ne.symm hne
   cases hob:st.objs id with
   |none=>simp[frz,x14y,he,hob,hne']
   |some ob=>
    cases ob with
    |row cs v fr=>
     obtain⟨g1,g2,g3⟩:=many2 ((cs.drop off).take (n*z)) λa ha=>cell id cs v fr hob a (x1rw (x1r1 ha))
     simp only[frz,x14y,he,hob,g1,g2]
     simp only[x1pd,not_or]
     exact⟨trivial,trivial,hne',g3⟩
    |map es=>simp[frz,x14y,he,hob,hne']
    |lp d=>simp[frz,x14y,he,hob,hne']
    |bld t e l=>simp[frz,x14y,he,hob,hne']
  |ptr id ver off=>
   obtain⟨blk,base,len,hη,_⟩:=x17w hV
   have hne:id≠id0:=by rintro rfl;rw[h0]at hη;cases hη
   have he:updo st.objs id0 o id=st.objs id:=by simp[updo,hne]
   have hne':id0≠id:=Ne.symm hne
   cases hob:st.objs id with
   |none=>simp[frz,x14y,he,hob,hne']
   |some ob=>
    cases ob with
    |row cs v fr=>
     obtain⟨g1,g2,g3⟩:=many2 (cs.drop off) λa ha=>cell id cs v fr hob a (x1rw ha)
     simp only[frz,x14y,he,hob,g1,g2]
     simp only[x1pd,not_or]
     exact⟨trivial,trivial,hne',g3⟩
    |map es=>simp[frz,x14y,he,hob,hne']
    |lp d=>simp[frz,x14y,he,hob,hne']
    |bld t e l=>simp[frz,x14y,he,hob,hne']
theorem frzs_ext(hS:Sim E w st){id0:Id}(h0:∀ver,E.η id0 ver=none)(o:Option Ob){l:List AV}(hl:∀a∈l,∃v,E.V w a v)(k:Nat) :
 l.mapM (frz (updo st.objs id0 o) k)=l.mapM (frz st.objs k)/\l.flatMap (x14y (updo st.objs id0 o) k)=l.flatMap (x14y st.objs k)/\id0∉l.flatMap (x14y st.objs k):=by
 have one:∀a∈l,frz (updo st.objs id0 o) k a=frz st.objs k a/\x14y (updo st.objs id0 o) k a=x14y st.objs k a/\id0∉x14y st.objs k a:=λa ha=>by
  obtain⟨v,hv⟩:=hl a ha
  exact x1dg hS h0 o k a v hv
 refine⟨x19p λa ha=>(one a ha).1,x1bw λa ha=>(one a ha).2.1,λhm=>?_⟩
 obtain⟨a,ha,hm⟩:=x1qe.1 hm
 exact(one a ha).2.2 hm
theorem x1g4{call:Hs->FuncId->List AV->St->Option (AV×St)}{hs:Hs}(hS:Sim E w st){id0:Id}(h0:∀ver,E.η id0 ver=none)(h1:id0.1<st.next)(o:Option Ob){mode:Nat}(hmode:mode=0\/mode=3\/mode=4){g:FuncId}{l:List AV}(hl:∀a∈l,∃v,E.V w a v) :
 x15r call hs mode (.clo g []) l {st with objs:=updo st.objs id0 o}=(x15r call hs mode (.clo g []) l st).map λp=>(p.1,{p.2 with objs:=updo p.2.objs id0 o}):=by
 obtain⟨g1,g2,g3⟩:=frzs_ext hS h0 o (l:=l++[]) (by simpa using hl) deep
 rcases hmode with rfl|rfl|rfl
 .simp only[x15r,g1,g2]
  cases(l++[]).mapM (frz st.objs deep)with
  |none=>rfl
  |some l'=>
   simp only
   cases call [] g l' x170 with
   |none=>rfl
   |some p=>
    simp only[Option.map_map]
    congr 1
    funext r
    simp only[Function.comp]
    congr 2
    funext i
    unfold shut updo
    by_cases hi:i=id0
    .subst hi;rw[x1oz g3];simp
    .simp[hi]
 .simp only[x15r,g1]
  cases(l++[]).mapM (frz st.objs deep)with
  |none=>rfl
  |some l'=>
   simp only
   cases call [] g l' x170 with
   |none=>rfl
   |some p=>
    simp only
    split<;>rfl
 .simp only[x15r,g1]
  cases(l++[]).mapM (frz st.objs deep)with
  |none=>rfl
  |some l'=>
   simp only
   cases call [] g l' {objs:=λ_=>none,next:=st.next}with
   |none=>rfl
   |some p=>
    simp only
    split
    .rename_i hp
     simp only[Option.map_some,x1p2,x1p1,true_and]
     congr 1
     funext i
     unfold updo
     by_cases hi:i=id0
     .subst hi
      have:i∉x14y p.2.objs deep p.1:=λhr=>by
       simp only[x1p4]at hp
       have:=x1p5.1 hp.2 i hr
       simp only[x1p4,x1qf]at this
       omega
      simp[this]
     .simp[hi]
    .rfl
end
def Eqf(a b:Id->Option Ob):Prop:=∀id,match a id,b id with
 |some (.row cs v _),some (.row cs' v' _)=>cs=cs'/\v=v'
 |x,y=>x=y
theorem Eqf.refl(a:Id->Option Ob):Eqf a a:=λid=>by
 cases h:a id with
 |none=>rfl
 |some o=>cases o<;>simp
theorem Eqf.row{a b:Id->Option Ob}(h:Eqf a b){id:Id}{cs:List AV}{v:Nat}{f:Bool}(e:a id=some (.row cs v f)):∃f',b id=some (.row cs v f'):=by
 have:=h id
 rw[e]at this
 cases hb:b id with
 |none=>rw[hb]at this;simp at this
 |some o=>
  cases o with
  |row cs' v' f'=>rw[hb]at this;simp at this;obtain⟨rfl,rfl⟩:=this;exact⟨f',rfl⟩
  |map es=>rw[hb]at this;simp at this
  |lp d=>rw[hb]at this;simp at this
  |bld t e l=>rw[hb]at this;simp at this
theorem Eqf.map{a b:Id->Option Ob}(h:Eqf a b){id:Id}{es:List (Value×AV)}(e:a id=some (.map es)):b id=some (.map es):=by
 have:=h id
 rw[e]at this
 cases hb:b id with
 |none=>rw[hb]at this;simp at this
 |some o=>cases o<;>(rw[hb]at this;simp at this;first|(subst this;rfl)|done)
theorem Eqf.shut(ids:List Id)(objs:Id->Option Ob):Eqf (shut ids objs) objs/\Eqf objs (Ix.shut ids objs):=by
 refine⟨λid=>?_,λid=>?_⟩
 all_goals
  by_cases hi:id∈ids
  .cases h:objs id with
   |none=>simp[Ix.shut,hi,h]
   |some o=>cases o<;>simp[Ix.shut,hi,h]
  .cases h:objs id with
   |none=>simp[Ix.shut,hi,h]
   |some o=>cases o<;>simp[Ix.shut,hi,h]
section
variable{P:Program}{id0:Id}{o:Oper}{sl:Nat->AV}{objs objs':Id->Option Ob}{v:AV}
theorem read_eqf(hg:x17h o.op=true)(hm:mapLen P o sl=false)(h:ixOp P id0 o sl objs=some (v,objs')):objs'=objs/\∀objs2:Id->Option Ob,Eqf objs objs2->ixOp P id0 o sl objs2=some (v,objs2):=by
 have x185:x158 id0 o sl=(some [],some [])->objs'=objs/\∀objs2:Id->Option Ob,Eqf objs objs2->ixOp P id0 o sl objs2=some (v,objs2):=by
  intro ht
  obtain⟨f1,f2⟩:=x1fv h ht hm
  have e:objs'=objs:=funext λi=>f1 i (by simp)
  refine⟨e,λobjs2 _=>?_⟩
  obtain⟨objs2',g1,_,g3⟩:=f2 objs2 (by simp)
  have e2:objs2'=objs2:=funext λi=>g3 i (by simp)
  rw[e2]at g1
  exact g1
 cases ho:o.op with
 |load t a=>
  simp only[ixOp,ho]at h ⊢
  split at h
  .rename_i g z hty
   split at h
   .rename_i cs he
    split at h
    .cases h
    .rename_i hn
     simp only[x1p3,x1p1]at h
     obtain⟨r,hr,rfl,rfl⟩:=h
     exact⟨rfl,λobjs2 _=>by simp[hr,hn]⟩
   .rename_i id ver off he
    split at h
    .rename_i cs vv fr hob
     split at h
     .rename_i hv
      simp only[x1p3,x1p1]at h
      obtain⟨r,hr,rfl,rfl⟩:=h
      refine⟨rfl,λobjs2 ha=>?_⟩
      obtain⟨f',hf⟩:=ha.row hob
      simp only[hf,x1p0 hv,hr,Option.map_some]
     .cases h
    .cases h
   .cases h
  .cases h
 |lookup t x ix ok=>
  simp only[ixOp,ho]at h ⊢
  have hme:∀objs2:Id->Option Ob,Eqf objs objs2->∀es,x184 objs (ev sl x)=some es->x184 objs2 (ev sl x)=some es:=by
   intro objs2 ha es
   unfold x184
   split
   .rename_i id he
    split
    .rename_i es' hob
     intro h2;cases h2
     rw[ha.map hob]
    .intro h2;cases h2
   .exact λh2=>h2
   .exact λh2=>h2
  split at h
  .split at h
   .split at h
    .rename_i es hes
     split at h
     .cases h
      exact⟨rfl,λobjs2 ha=>by rw[hme objs2 ha es hes];simp_all⟩
     .cases h
    .cases h
   .cases h
  .cases h
 |slice t x lo hi mx=>
  by_cases hp:∃id ver off,ev sl x=.ptr id ver off
  rotate_left
  .refine x185 ?_
   simp only[x158,ho]
   split
   .rename_i id ver off e;exact absurd ⟨id,ver,off,e⟩ hp
   .rfl
  obtain⟨id,ver,off,he⟩:=hp
  cases mx with
  |some m=>
   cases hi with
   |none=>simp[ixOp,ho]at h
   |some hi=>
    simp only[ixOp,ho,he,x15b]at h
    split at h
    .split at h
     .cases h
     .cases h
    .cases h
  |none=>
   simp only[ixOp,ho,he,x15b]at h ⊢
   split at h
   .split at h
    .cases h
    .cases h
   .split at h
    .split at h
     .rename_i cs vv fr hob
      split at h
      .rename_i hc
       simp only[x1p2,x1p1]at h
       obtain⟨rfl,rfl⟩:=h
       refine⟨rfl,λobjs2 ha=>?_⟩
       obtain⟨f',hf⟩:=ha.row hob
       simp only[hf]
       simp_all<;>omega
      .cases h
     .cases h
    .cases h
   .cases h
 |call c=>
  simp only[x17h,ho]at hg
  cases hc:c.callee with
  |builtin b=>
   rw[hc]at hg
   exact x185 (by cases b<;>simp at hg<;>simp[x158,ho,hc])
  |value _=>simp[hc]at hg
  |invoke _ _=>simp[hc]at hg
 |_=>first|(simp[x17h,ho]at hg;done)|exact x185 (by simp[x158,ho])
theorem new_exec(hg:x186 o.op=true)(h:ixOp P id0 o sl objs=some (v,objs')) :
 (objs'=objs/\∀objs2:Id->Option Ob,ixOp P id0 o sl objs2=some (v,objs2))\/∃ob,objs'=updo objs id0 (some ob)/\∀objs2:Id->Option Ob,ixOp P id0 o sl objs2=some (v,updo objs2 id0 (some ob)):=by
 cases ho:o.op with
 |alloc t=>
  simp only[ixOp,ho]at h
  split at h
  .rename_i cs hz
   split at h
   .rename_i e hb
    cases h
    exact .inr ⟨_,rfl,λobjs2=>by simp[ixOp,ho,hz,hb]⟩
   .rename_i hb
    cases h
    exact .inr ⟨_,rfl,λobjs2=>by simp[ixOp,ho,hz,hb]⟩
  .cases h
 |box t x=>
  simp only[ixOp,ho]at h
  split at h
  .rename_i hz
   cases h
   exact .inr ⟨_,rfl,λobjs2=>by simp only[ixOp,ho];rw[x1p0 hz]⟩
  .cases h
 |makeMap t r=>
  cases r with
  |some r=>simp[ixOp,ho]at h
  |none=>
   simp only[ixOp,ho]at h
   cases h
   exact .inr ⟨_,rfl,λobjs2=>by simp[ixOp,ho]⟩
 |makeSlice t l c=>
  simp only[ixOp,ho]at h
  split at h
  .split at h
   .split at h
    .cases h
     exact .inr ⟨_,rfl,λobjs2=>by simp_all [ixOp]⟩
    .cases h
   .cases h
  .cases h
 |buildSlice t n ps=>
  simp only[ixOp,ho]at h
  split at h
  .split at h
   .split at h
    .split at h
     .split at h
      .cases h
      .split at h
       .cases h
        exact .inl ⟨rfl,λobjs2=>by simp_all [ixOp]⟩
       .cases h
        exact .inr ⟨_,rfl,λobjs2=>by simp_all [ixOp]⟩
     .cases h
    .cases h
   .cases h
  .cases h
 |_=>simp[ho,x186]at hg
end
section
variable{P:Program}{pol:Pol}{call:Hs->FuncId->List AV->St->Option (AV×St)}{c:Ctx}{ops:Array Oper}
theorem x19q{i fc:Nat}{o:Oper}{sl:Nat->AV}{st:St}(h1:∀fv args at',o.op≠.call ⟨.value fv,args,at'⟩)(h2:∀rv name args at',o.op≠.call ⟨.invoke rv name,args,at'⟩) :
 exec P pol call c ops i fc o sl st=if x16v ops o sl then(ixOp P (c.u,fc+i,o.dst.getD 0) o sl st.objs).map λp=>(p.1,{st with objs:=p.2})else some (.sc undef,st):=by
 unfold exec
 split
 .split
  .rename_i e;exact absurd e (h1 _ _ _)
  .rename_i e;exact absurd e (h2 _ _ _ _)
  .rfl
 .rfl
theorem x1dh{o:Oper}(h:x17h o.op=true\/x186 o.op=true):(∀fv args at',o.op≠.call ⟨.value fv,args,at'⟩)/\∀rv name args at',o.op≠.call ⟨.invoke rv name,args,at'⟩:=by
 refine⟨λfv args at' e=>?_,λrv name args at' e=>?_⟩<;>(rw[e]at h;rcases h with h|h<;>simp[x17h,x186]at h)
theorem x1g5{i fc:Nat}{o:Oper}{sl:Nat->AV}{st st1:St}{v:AV}(hg:x17h o.op=true)(hm:mapLen P o sl=false)(h:exec P pol call c ops i fc o sl st=some (v,st1)) :
 st1=st/\∀st2:St,Eqf st.objs st2.objs->exec P pol call c ops i fc o sl st2=some (v,st2):=by
 obtain⟨k1,k2⟩:=x1dh (.inl hg)
 rw[x19q k1 k2]at h
 split at h
 .rename_i hw
  simp only[x1p3,x1p1]at h
  obtain⟨p,hp,rfl,rfl⟩:=h
  obtain⟨e,hr⟩:=read_eqf (v:=p.1) (objs':=p.2) hg hm hp
  refine⟨by rw[e],λst2 ha=>?_⟩
  rw[x19q k1 k2,x1p0 hw,hr _ ha]
  rfl
 .rename_i hw
  cases h
  exact⟨rfl,λst2 _=>by rw[x19q k1 k2,x1oz hw]⟩
theorem x1bx{i fc:Nat}{o:Oper}{sl:Nat->AV}{st st1:St}{v:AV}(hg:x186 o.op=true)(h:exec P pol call c ops i fc o sl st=some (v,st1)) :
 (st1=st/\∀st2:St,exec P pol call c ops i fc o sl st2=some (v,st2)) \/
 ∃ob,st1={st with objs:=updo st.objs (c.u,fc+i,o.dst.getD 0) (some ob)}/\∀st2:St,exec P pol call c ops i fc o sl st2=some (v,{st2 with objs:=updo st2.objs (c.u,fc+i,o.dst.getD 0) (some ob)}):=by
 obtain⟨k1,k2⟩:=x1dh (.inr hg)
 rw[x19q k1 k2]at h
 split at h
 .rename_i hw
  simp only[x1p3,x1p1]at h
  obtain⟨p,hp,rfl,rfl⟩:=h
  rcases new_exec (v:=p.1) (objs':=p.2) hg hp with ⟨e,hr⟩|⟨ob,e,hr⟩
  .refine .inl ⟨by rw[e],λst2=>?_⟩
   rw[x19q k1 k2,x1p0 hw,hr]
   rfl
  .refine .inr ⟨ob,by rw[e],λst2=>?_⟩
   rw[x19q k1 k2,x1p0 hw,hr]
   rfl
 .rename_i hw
  cases h
  exact .inl ⟨rfl,λst2=>by rw[x19q k1 k2,x1oz hw]⟩
theorem x16t{i fc:Nat}{x:Oper}{g:FuncId}{args:Array Operand}{ats:Array TypeId}(hx:x.op=.call ⟨.value (.func g),args,ats⟩){sl:Nat->AV}{st:St} :
 exec P pol call c ops i fc x sl st=if x16v ops x sl then x16d call c.u fc c.hs (nm (pol c.f (x.dst.getD 0))) (.clo g []) (args.toList.map (ev sl)) st else some (.sc undef,st):=by
 unfold exec
 rw[hx]
 rfl
theorem x1g6{mode:Nat}{x:Oper}{y:Op}(h:x17r mode x y=true):(∃g args ats,x.op=.call ⟨.value (.func g),args,ats⟩)/\((x186 y=true/\(nm mode=0\/nm mode=3\/nm mode=4))\/(x17h y=true/\(nm mode=0\/nm mode=3))\/((x186 y=true\/x18p y=true)/\nm mode=9)):=by
 unfold x17r at h
 simp only[x1p4,x1pw]at h
 obtain⟨h1,h2⟩:=h
 refine⟨?_,?_⟩
 .split at h1
  .rename_i g args ats e;exact⟨g,args,ats,e⟩
  .cases h1
 .rcases h2 with (⟨h2,h3⟩|⟨h2,h3⟩)|⟨h2,h3⟩
  .left
   refine⟨h2,?_⟩
   rcases h3 with (h3|h3)|h3<;>(have:=x1p8 h3;subst this;simp[nm])
  .right;left
   refine⟨h2,?_⟩
   rcases h3 with h3|h3<;>(have:=x1p8 h3;subst this;simp[nm])
  .right;right
   refine⟨h2,?_⟩
   have:=x1p8 h3;subst this;simp[nm]
theorem x17z{u fc:Nat}{hs:Hs}{mode:Nat}{fv:AV}{l:List AV}{st:St}(h:mode≠9):x16d call u fc hs mode fv l st=x15r call hs mode fv l st:=by
 unfold x16d;rw[x1oz h]
theorem x1g7{u fc:Nat}{hs:Hs}{g:FuncId}{l:List AV}{st:St}{id0:Id}(o:Option Ob)(hi:hidB u fc id0=true) :
 x16d call u fc hs 9 (.clo g []) l {st with objs:=updo st.objs id0 o}=(x16d call u fc hs 9 (.clo g []) l st).map λp=>(p.1,{p.2 with objs:=updo p.2.objs id0 o}):=by
 unfold x16d
 rw[x1p0 rfl,x1p0 rfl]
 have e:x187 u fc {st with objs:=updo st.objs id0 o}=x187 u fc st:=by
  unfold x187
  simp only
  congr 1
  funext i
  by_cases h:i=id0
  .subst h;simp[hi]
  .simp[updo,h]
 simp only[e]
 cases call [] g (l++[]) (x187 u fc st)with
 |none=>rfl
 |some p=>
  simp only[Option.map_some,x1p2,x1p1,true_and]
  unfold x1b9
  simp only
  congr 1
  funext i
  by_cases h:i=id0
  .subst h;simp[hi,updo]
  .simp[updo,h]
theorem x1g8{u fc i d:Nat}:hidB u fc (u,fc+i,d)=true:=by simp[hidB]
theorem x1g9{i fc:Nat}{o:Oper}{sl:Nat->AV}{st st1:St}{v:AV}(hg:x18p o.op=true)(hm:mapLen P o sl=false)(h:exec P pol call c ops i fc o sl st=some (v,st1)) :
 st1=st/\∀st2:St,exec P pol call c ops i fc o sl st2=some (v,st2):=by
 have hr:x17h o.op=true:=by
  cases ho:o.op with
  |call cl=>
   simp only[ho,x18p]at hg
   simp only[x17h]
   exact hg
  |_=>first|rfl|(simp[ho,x18p]at hg;done)
 have ht:x158 (c.u,fc+i,o.dst.getD 0) o sl=(some [],some []):=by
  cases ho:o.op with
  |call cl=>
   simp only[ho,x18p]at hg
   simp only[x158,ho]
   cases hc:cl.callee with
   |builtin b=>rw[hc]at hg;cases b<;>simp at hg<;>rfl
   |value _=>rw[hc]at hg;cases hg
   |invoke _ _=>rw[hc]at hg;cases hg
  |_=>first|(simp[x158,ho];done)|(simp[ho,x18p]at hg;done)
 obtain⟨k1,k2⟩:=x1dh (.inl hr)
 have hn:x15j o=false:=by
  unfold x15j
  split
  .rename_i e;exact absurd e (k1 _ _ _)
  .rfl
 obtain⟨f1,f2,f3⟩:=x19o hn h ht hm
 refine⟨St.ext' (λid=>f2 id (by simp)) f1,λst2=>?_⟩
 obtain⟨st2',g1,g2,g3,g4⟩:=f3 st2 (by simp)
 rw[g1,St.ext' (λid=>g4 id (by simp)) g2]
theorem x1ga{hs:Hs}{mode:Nat}(hm:mode=0\/mode=3){g:FuncId}{l:List AV}{st st1:St}{v:AV}(h:x15r call hs mode (.clo g []) l st=some (v,st1)):Eqf st.objs st1.objs/\Eqf st1.objs st.objs:=by
 rcases hm with rfl|rfl
 .simp only[x15r]at h
  split at h
  .split at h
   .simp only[x1p3,x1p1]at h
    obtain⟨r',_,rfl,rfl⟩:=h
    exact⟨(Eqf.shut _ _).2,(Eqf.shut _ _).1⟩
   .cases h
  .cases h
 .simp only[x15r]at h
  split at h
  .split at h
   .split at h
    .cases h;exact⟨Eqf.refl _,Eqf.refl _⟩
    .cases h
   .cases h
  .cases h
theorem swap_soft{L:List Nat}{i j:Nat}{x y:Oper}{s:S}{st1 st2:St}{v u:AV}(hg:Good P c L s)(hi:j∈L)(hmy:mapLen P y s.sl=false)(hs:x17r (pol c.f (x.dst.getD 0)) x y.op=true)(hx:exec P pol call c ops i s.fc x s.sl s.st=some (v,st1))(hy:exec P pol call c ops j s.fc y s.sl st1=some (u,st2)) :
 ∃st1',exec P pol call c ops j s.fc y s.sl s.st=some (u,st1')/\exec P pol call c ops i s.fc x s.sl st1'=some (v,st2):=by
 obtain⟨⟨g,args,ats,hop⟩,hk⟩:=x1g6 hs
 obtain⟨E,w,tmps,hS,hT,hH,hu,hU⟩:=hg
 rw[x16t hop]at hx
 split at hx
 rotate_left
 .rename_i hw
  cases hx
  exact⟨st2,hy,by rw[x16t hop,x1oz hw]⟩
 rename_i hw
 have h0:∀ver,E.η (c.u,s.fc+j,y.dst.getD 0) ver=none:=λver=>by
  cases he:E.η (c.u,s.fc+j,y.dst.getD 0) ver with
  |none=>rfl
  |some z=>exact absurd rfl (hU _ ver (by rw[he];simp) rfl j hi)
 have hl:∀a∈args.toList.map (ev s.sl),∃v,E.V w a v:=λa ha=>by
  obtain⟨z,_,rfl⟩:=x1q8.1 ha
  exact⟨_,(Tm.ev (a:={tmps,defers:=[]}) hT) z⟩
 rcases hk with ⟨hf,hm⟩|⟨hr,hm⟩|⟨hf,hm⟩
 .rw[x17z (by rcases hm with e|e|e<;>simp[e])]at hx
  rcases x1bx hf hy with ⟨rfl,hr⟩|⟨ob,rfl,hr⟩
  .exact⟨s.st,hr s.st,by rw[x16t hop,x1p0 hw,x17z (by rcases hm with e|e|e<;>simp[e]),hx]⟩
  .refine⟨_,hr s.st,?_⟩
   rw[x16t hop,x1p0 hw,x17z (by rcases hm with e|e|e<;>simp[e]),x1g4 hS h0 (by exact hu) _ hm hl,hx]
   rfl
 .rw[x17z (by rcases hm with e|e<;>simp[e])]at hx
  obtain⟨e1,e2⟩:=x1ga hm hx
  obtain⟨rfl,h2⟩:=x1g5 hr hmy hy
  exact⟨s.st,h2 _ e2,by rw[x16t hop,x1p0 hw,x17z (by rcases hm with e|e<;>simp[e]),hx]⟩
 .rcases hf with hf|hf
  .rcases x1bx hf hy with ⟨rfl,hr⟩|⟨ob,rfl,hr⟩
   .exact⟨s.st,hr s.st,by rw[x16t hop,x1p0 hw,hx]⟩
   .refine⟨_,hr s.st,?_⟩
    rw[hm]at hx
    rw[x16t hop,x1p0 hw,hm,x1g7 _ x1g8,hx]
    rfl
  .obtain⟨rfl,h2⟩:=x1g9 hf hmy hy
   exact⟨s.st,h2 _,by rw[x16t hop,x1p0 hw,hx]⟩
theorem x1in{L:List Nat}{i j:Nat}{x y:Oper}{s:S}{st1 st2:St}{v u:AV}(hg:Good P c L s)(hi:i∈L)(hmx:mapLen P x s.sl=false)(hs:x17r (pol c.f (y.dst.getD 0)) y x.op=true)(hx:exec P pol call c ops i s.fc x s.sl s.st=some (v,st1))(hy:exec P pol call c ops j s.fc y s.sl st1=some (u,st2)) :
 ∃st1',exec P pol call c ops j s.fc y s.sl s.st=some (u,st1')/\exec P pol call c ops i s.fc x s.sl st1'=some (v,st2):=by
 obtain⟨⟨g,args,ats,hop⟩,hk⟩:=x1g6 hs
 obtain⟨E,w,tmps,hS,hT,hH,hu,hU⟩:=hg
 rw[x16t hop]at hy
 split at hy
 rotate_left
 .rename_i hw
  cases hy
  exact⟨s.st,by rw[x16t hop,x1oz hw],hx⟩
 rename_i hw
 have h0:∀ver,E.η (c.u,s.fc+i,x.dst.getD 0) ver=none:=λver=>by
  cases he:E.η (c.u,s.fc+i,x.dst.getD 0) ver with
  |none=>rfl
  |some z=>exact absurd rfl (hU _ ver (by rw[he];simp) rfl i hi)
 have hl:∀a∈args.toList.map (ev s.sl),∃v,E.V w a v:=λa ha=>by
  obtain⟨z,_,rfl⟩:=x1q8.1 ha
  exact⟨_,(Tm.ev (a:={tmps,defers:=[]}) hT) z⟩
 rcases hk with ⟨hf,hm⟩|⟨hr,hm⟩|⟨hf,hm⟩
 .rw[x17z (by rcases hm with e|e|e<;>simp[e])]at hy
  rcases x1bx hf hx with ⟨rfl,hr⟩|⟨ob,rfl,hr⟩
  .exact⟨st2,by rw[x16t hop,x1p0 hw,x17z (by rcases hm with e|e|e<;>simp[e]),hy],hr st2⟩
  .rw[x1g4 hS h0 (by exact hu) _ hm hl]at hy
   simp only[x1p3,x1p1]at hy
   obtain⟨p,hp,rfl,rfl⟩:=hy
   exact⟨p.2,by rw[x16t hop,x1p0 hw,x17z (by rcases hm with e|e|e<;>simp[e]),hp],hr p.2⟩
 .rw[x17z (by rcases hm with e|e<;>simp[e])]at hy
  obtain⟨rfl,h2⟩:=x1g5 hr hmx hx
  obtain⟨e1,e2⟩:=x1ga hm hy
  exact⟨st2,by rw[x16t hop,x1p0 hw,x17z (by rcases hm with e|e<;>simp[e]),hy],h2 st2 e1⟩
 .rcases hf with hf|hf
  .rcases x1bx hf hx with ⟨rfl,hr⟩|⟨ob,rfl,hr⟩
   .exact⟨st2,by rw[x16t hop,x1p0 hw,hy],hr st2⟩
   .rw[hm,x1g7 _ x1g8]at hy
    simp only[x1p3,x1p1]at hy
    obtain⟨p,hp,rfl,rfl⟩:=hy
    exact⟨p.2,by rw[x16t hop,x1p0 hw,hm,hp],hr p.2⟩
  .obtain⟨rfl,h2⟩:=x1g9 hf hmx hx
   exact⟨st2,by rw[x16t hop,x1p0 hw,hy],h2 st2⟩
end
section
variable{P:Program}{pol:Pol}{call:Hs->FuncId->List AV->St->Option (AV×St)}{c:Ctx}{ops:Array Oper}
theorem x1di{y:Oper}{d:Option Tmp}{v:AV}{sl:Nat->AV}(h:∀t,d=some t->t∉y.looksAt ops):x193 ops y sl (setd d v sl):=by
 intro t ht
 cases d with
 |none=>rfl
 |some e=>
  simp only[setd,upd]
  rw[x1oz]
  rintro rfl
  exact h t rfl ht
theorem swap_step{L:List Nat}{i j next0:Nat}{x y:Oper}{s s1 s2:S}(hmx:mapLen P x s.sl=false)(hmy:mapLen P y s.sl=false)(hx:ops[i]?=some x)(hy:ops[j]?=some y)(hg:Good P c L s)(hi:i∈L)(hj:j∈L)(hn:next0<=s.st.next)(h1:x163 P pol call c ops i s=some s1)(h2:x163 P pol call c ops j s1=some s2)(hp:pairOK pol c s.fc next0 ops i j s.sl=true):∃s1',x163 P pol call c ops j s=some s1'/\x163 P pol call c ops i s1'=some s2:=by
 rw[x1ay hx]at h1
 simp only[x1q7]at h1
 obtain⟨⟨v,st1⟩,e1,p1⟩:=h1
 obtain⟨d1,rfl⟩:=x1df p1
 rw[x1ay hy]at h2
 simp only[x1q7]at h2
 obtain⟨⟨u,st2⟩,e2,p2⟩:=h2
 obtain⟨d2,rfl⟩:=x1df p2
 simp only[pairOK,hx,hy,x1p4,x1pw]at hp
 obtain⟨ha,hp⟩:=hp
 obtain⟨a1,a2,a3⟩:=Oper.apart_spec ha
 rw[x1fw (x1di a1)]at e2
 have key:∃st1',exec P pol call c ops j s.fc y s.sl s.st=some (u,st1')/\exec P pol call c ops i s.fc x s.sl st1'=some (v,st2):=by
  rcases hp with (hp|hp)|hp
  .exact swap_soft hg hj hmy hp e1 e2
  .exact x1in hg hi hmx hp e1 e2
  split at hp
  .exact x1il hmy e1 e2 hn hp
  .rename_i hcx
   split at hp
   .exact x1im hmx e1 e2 (λR W ht=>touch_lt hg ht) hp
   .rename_i hcy
    exact swap_ops hmx hmy (by simpa using hcx) (by simpa using hcy) e1 e2 hp
 obtain⟨st1',k1,k2⟩:=key
 refine⟨{sl:=setd y.dst u s.sl,st:=st1',fc:=s.fc},?_,?_⟩
 .rw[x1ay hy,k1]
  simp only[x1ri]
  rw[put_of d2]
 .rw[x1ay hx]
  simp only
  rw[x1fw (x1di a3),k2]
  simp only[x1ri]
  rw[put_of d1]
  simp only
  rw[setd_comm a2]
theorem x1gb{id0:Id}{o:Oper}{sl sl2:Nat->AV}(h:quiet o.op=true):x158 id0 o sl2=x158 id0 o sl:=by
 unfold x158
 cases ho:o.op with
 |call cl=>
  simp only[quiet,ho]at h
  cases hc:cl.callee with
  |builtin b=>cases b<;>simp[hc]at h<;>simp only[hc]
  |_=>simp[hc]at h
 |_=>first|rfl|(simp[quiet,ho]at h;done)
theorem x1gc{m:Nat}{o:Oper}{sl sl2:Nat->AV}(h:quiet o.op=true):meek m o sl2=meek m o sl:=by
 unfold meek
 cases ho:o.op with
 |call cl=>
  simp only[quiet,ho]at h
  cases hc:cl.callee with
  |value f=>simp[hc]at h
  |_=>simp only[hc]
 |_=>rfl
def Same(P:Program)(ops:Array Oper)(o:Oper)(sl sl2:Nat->AV):Prop:=x18q P o.op=true\/x193 ops o sl sl2
theorem x1by{o:Op}(h:x18q P o=true):quiet o=true:=by
 unfold x18q at h
 rw[x1p4]at h
 exact h.1
theorem x1gd{o:Oper}{sl sl2:Nat->AV}(h:Same P ops o sl sl2):mapLen P o sl2=mapLen P o sl:=by
 unfold mapLen
 cases ho:o.op with
 |convert src dst x=>
  simp only
  split
  .rename_i hs hd
   rcases h with h|h
   .unfold x18q txtC at h
    rw[ho]at h
    simp only[hs,hd,x1pe,x1rx]at h
    cases h
   .have:=x1a7 h x (by rw[ho];simp[Op.operands])
    rw[this]
  .rfl
 |_=>rfl
theorem pair_conv{i j fc next0:Nat}{x y:Oper}{sl sl2:Nat->AV}(hx:ops[i]?=some x)(hy:ops[j]?=some y)(h1:Same P ops x sl sl2)(h2:Same P ops y sl sl2):pairOK pol c fc next0 ops i j sl2=pairOK pol c fc next0 ops i j sl:=by
 have t1:∀id0,x158 id0 x sl2=x158 id0 x sl:=λid0=>h1.elim (λh=>x1gb (x1by h)) x1fx
 have t2:∀id0,x158 id0 y sl2=x158 id0 y sl:=λid0=>h2.elim (λh=>x1gb (x1by h)) x1fx
 have m1:∀m,meek m x sl2=meek m x sl:=λm=>h1.elim (λh=>x1gc (x1by h)) x1fy
 have m2:∀m,meek m y sl2=meek m y sl:=λm=>h2.elim (λh=>x1gc (x1by h)) x1fy
 simp only[pairOK,hx,hy,x17i,t1,t2,m1,m2]
theorem step_sl{i:Nat}{s s':S}(h:x163 P pol call c ops i s=some s'):∃v,s'.sl=setd ((ops[i]?).bind (·.dst)) v s.sl:=by
 cases ho:ops[i]? with
 |none=>unfold x163 at h;simp only[ho,x1p2]at h;subst h;exact⟨.sc undef,rfl⟩
 |some o=>
  rw[x1ay ho]at h
  simp only[x1q7]at h
  obtain⟨⟨v,st1⟩,_,p1⟩:=h
  obtain⟨_,rfl⟩:=x1df p1
  exact⟨v,rfl⟩
theorem run_sl:∀(M:List Nat) {s s1:S} {o:Oper},x162 P pol call c ops M s=some s1->(∀j∈M,∀d,(ops[j]?).bind (·.dst)=some d->d∉o.looksAt ops)->x193 ops o s.sl s1.sl
 |[],s,s1,o,h,_=>by simp[x162]at h;subst h;exact λ_ _=>rfl
 |j::M,s,s1,o,h,hd=>by
  simp only[x162]at h
  split at h
  .rename_i s' hs'
   obtain⟨v,hv⟩:=step_sl hs'
   have h2:=run_sl M h (λk hk=>hd k (x1p7 _ hk))
   intro t ht
   rw[h2 t ht,hv]
   exact x1di (hd j (x1pp)) t ht
  .cases h
structure Fit (P:Program) (pol:Pol) (c:Ctx) (ops:Array Oper) (fc next0:Nat) (slf:Nat->AV) (bef:Nat->Nat->Bool) (M:List Nat):Prop where
 sorted:M.Pairwise (· < ·)
 size:∀i∈M,i<ops.size
 late:∀i∈M,∀j∈M,i<=j->Ix.late P ops i j=true
 pair:∀i∈M,∀j∈M,i<j->bef j i=false->pairOK pol c fc next0 ops i j slf=true
 len:∀i∈M,∀o,ops[i]?=some o->mapLen P o slf=false
theorem x1ge(hc:x169 P call){next0 fc:Nat}{bef:Nat->Nat->Bool}{x:Nat}{B:List Nat}{s1:S}:∀(A:List Nat) {s:S},(A++x::B).Nodup->Good P c (A++x::B) s->next0<=s.st.next->s.fc=fc->Fit P pol c ops fc next0 s1.sl bef (A++x::B)->(∀a∈A,bef x a=false) ->
 x162 P pol call c ops (A++x::B) s=some s1->x162 P pol call c ops (x::(A++B)) s=some s1
 |[],s,_,_,_,_,_,_,h=>h
 |a::A,s,hN,hg,hn,hfc,hf,hb,h=>by
  have hA:a<ops.size:=hf.size a (by simp)
  have hX:x<ops.size:=hf.size x (by simp)
  have hax:a<x:=by
   have:=x1ry.1 hf.sorted
   exact this.1 x (by simp)
  rw[x1q4]at h hN
  simp only[x162]at h
  split at h
  .rename_i s' hs'
   have hN':=x1sd.1 hN
   obtain⟨hg',hn'⟩:=x1g3 (L':=A++x::B) hc hg (x1pp) hs' (λj hj=>⟨x1p7 _ hj,λe=>hN'.1 (e▸hj)⟩)
   have hf':Fit P pol c ops fc next0 s1.sl bef (A++x::B):=⟨(x1ry.1 hf.sorted).2,λi hi=>hf.size i (x1p7 _ hi),λi hi j hj=>hf.late i (x1p7 _ hi) j (x1p7 _ hj),λi hi j hj=>hf.pair i (x1p7 _ hi) j (x1p7 _ hj),λi hi=>hf.len i (x1p7 _ hi)⟩
   have ih:=x1ge hc (s:=s') A hN'.2 hg' (x1q1 hn hn') ((x1d9 hs').trans hfc) hf' (λb hb'=>hb b (x1p7 _ hb')) h
   simp only[x162]at ih
   split at ih
   .rename_i s'' hs''
    have hp:=hf.pair a (by simp) x (by simp) hax (hb a (by simp))
    have hoa:ops[a]?=some ops[a]:=x1pg hA
    have hox:ops[x]?=some ops[x]:=x1pg hX
    have hlate:∀i∈a::(A++x::B),∀(hi:i<ops.size),∀j∈a::(A++x::B),i<=j->x18q P (ops[i]).op=true\/∀d,(ops[j]?).bind (·.dst)=some d->d∉(ops[i]).looksAt ops:=by
     intro i hi hlt j hj hij
     have hl:=hf.late i hi j hj hij
     unfold Ix.late at hl
     rw[x1pg hlt]at hl
     cases hd:(ops[j]?).bind (·.dst)with
     |none=>exact .inr (by simp)
     |some d=>
      simp only[hd,x1pw,x1rv]at hl
      rcases hl with hl|hl
      .exact .inl hl
      .exact .inr (λd' e=>by cases e;simpa using hl)
    have full:x162 P pol call c ops (a::x::(A++B)) s=some s1:=by
     simp only[x162,hs',hs''];exact ih
    have same_a:Same P ops ops[a] s.sl s1.sl:=by
     by_cases hq:x18q P (ops[a]).op=true
     .exact .inl hq
     .refine .inr (run_sl _ full λj hj d hd=>?_)
      have hj':j∈a::(A++x::B):=by
       simp at hj ⊢;rcases hj with h|h|h|h<;>simp[h]
      have haj:a<=j:=by
       have:=x1ry.1 hf.sorted
       rcases x1pd.1 hj' with rfl|h
       .exact x1p6 _
       .exact Nat.le_of_lt (this.1 j h)
      exact((hlate a (by simp) hA j hj' haj).resolve_left hq) d hd
    have same_x:Same P ops ops[x] s.sl s1.sl:=by
     by_cases hq:x18q P (ops[x]).op=true
     .exact .inl hq
     .refine .inr (run_sl _ full λj hj d hd=>?_)
      have hj':j∈a::(A++x::B):=by
       simp at hj ⊢;rcases hj with h|h|h|h<;>simp[h]
      rcases x1pq j x with hlt|hge
      .have hjb:bef x j=false:=by
        have:j∈a::A:=by
         have hso:=hf.sorted
         rw[List.pairwise_append]at hso
         have hj2:j∈(a::A)++(x::B):=by simpa using hj'
         rcases x1qh.1 hj2 with h|h
         .exact h
         .rcases x1pd.1 h with rfl|h
          .omega
          .have:=(x1ry.1 hso.2.1).1 j h;omega
        exact hb j this
       have hpj:=hf.pair j hj' x (by simp) hlt hjb
       have hjs:=hf.size j hj'
       simp only[pairOK,x1pg hjs,hox,x1p4]at hpj
       rw[x1pg hjs]at hd
       exact(Oper.apart_spec hpj.1).1 d hd
      .exact((hlate x (by simp) hX j hj' hge).resolve_left hq) d hd
    rw[pair_conv hoa hox same_a same_x]at hp
    obtain⟨s1',k1,k2⟩:=swap_step ((x1gd same_a).symm.trans (hf.len a (by simp) _ hoa)) ((x1gd same_x).symm.trans (hf.len x (by simp) _ hox)) hoa hox hg (by simp) (by simp) hn hs' hs'' (by rw[hfc];exact hp)
    simp only[x1q4,x162,k1,k2]
    exact ih
   .cases ih
  .cases h
end
section
variable{P:Program}{pol:Pol}{call:Hs->FuncId->List AV->St->Option (AV×St)}{c:Ctx}{ops:Array Oper}
inductive Legal (bef:Nat->Nat->Bool):List Nat->List Nat->Prop
 |nil:Legal bef [] []
 |cons {A B L:List Nat} {x:Nat} (h:∀a∈A++B,bef x a=false) (h':Legal bef (A++B) L):Legal bef (A++x::B) (x::L)
theorem run_legal(hc:x169 P call){next0 fc:Nat}{bef:Nat->Nat->Bool}{s1:S}{M L:List Nat}(hl:Legal bef M L):∀{s:S},M.Nodup->Good P c M s->next0<=s.st.next->s.fc=fc->Fit P pol c ops fc next0 s1.sl bef M->x162 P pol call c ops M s=some s1->x162 P pol call c ops L s=some s1:=by
 induction hl with
 |nil=>intro s _ _ _ _ _ h;exact h
 | @cons A B L x hb _ ih=>
   intro s hN hg hn hfc hf h
   have h':=x1ge hc A hN hg hn hfc hf (λa ha=>hb a (x1qv _ ha)) h
   simp only[x162]at h' ⊢
   split at h'
   .rename_i s' hs'
    have hsub:∀j∈A++B,j∈A++x::B:=λj hj=>by simp at hj ⊢;rcases hj with h|h<;>simp[h]
    have hne:∀j∈A++B,j≠x:=by
     intro j hj e
     subst e
     have:=hN
     rw[x1st]at this
     rcases x1qh.1 hj with h|h
     .exact this.2.2 j h j (by simp) rfl
     .exact(x1sd.1 this.2.1).1 h
    obtain⟨hg',hn'⟩:=x1g3 (L':=A++B) hc hg (by simp) hs' (λj hj=>⟨hsub j hj,hne j hj⟩)
    exact ih (List.Nodup.sublist (List.Sublist.append_left (List.sublist_cons_self _ _) _) hN) hg' (x1q1 hn hn') ((x1d9 hs').trans hfc)
     ⟨hf.sorted.sublist (List.Sublist.append_left (List.sublist_cons_self _ _) _),λi hi=>hf.size i (hsub i hi),λi hi j hj=>hf.late i (hsub i hi) j (hsub j hj),λi hi j hj=>hf.pair i (hsub i hi) j (hsub j hj),λi hi=>hf.len i (hsub i hi)⟩ h'
   .cases h'
end
section
variable{ops:Array Oper}
def x16x(o:Oper):List Nat:=(o.after.toList.filter (Region.binds .any)).map (·.on)
theorem befs_go(X:Nat->Prop)(hX:∀i o,ops[i]?=some o->X i->∀k∈x16x o,X k):∀(os:List Oper) (acc:List (List Nat)),(∀i,ops[acc.length+i]?=os[i]?)->(∀j o,j<acc.length->ops[j]?=some o->(∀k∈x16x o,X k)->∀k∈acc.getD j [],X k) ->
 ∀j o,ops[j]?=some o->(∀k∈x16x o,X k)->∀k∈(os.foldl (λacc o=>acc++[(o.after.toList.filter (Region.binds .any)).flatMap λe=>e.on::acc.getD e.on []]) acc).getD j [],X k
 |[],acc,hos,hacc=>by
  intro j o ho hd
  rcases x1pq j acc.length with h|h
  .exact hacc j o h ho hd
  .have:=hos (j-acc.length)
   rw[show acc.length+(j-acc.length)=j by omega,ho]at this
   simp at this
 |o0::os,acc,hos,hacc=>by
  have ho0:ops[acc.length]?=some o0:=by have:=hos 0;simpa using this
  refine befs_go X hX os _ (λi=>?_) (λj o hj ho hd=>?_)
  .have:=hos (i+1)
   simp only[x1pn,x1ph,x1qa,x1qo]at this ⊢
   rw[<-this];congr 1;omega
  .intro k hk
   simp only[x1pn,x1ph,x1qa]at hj
   rcases x1pq j acc.length with h|h
   .rw[x1q3,x1r7 h,<-x1q3]at hk
    exact hacc j o h ho hd k hk
   .have e:j=acc.length:=by omega
    subst e
    rw[x1q3,x1r8 (x1p6 _)]at hk
    simp only[Nat.sub_self,x1qu,Option.getD_some,x1qe]at hk
    obtain⟨e,he,hk⟩:=hk
    rw[ho0]at ho;cases ho
    have hXe:X e.on:=hd _ (x1q8.2 ⟨e,he,rfl⟩)
    rcases x1pd.1 hk with rfl|hk
    .exact hXe
    .rcases x1pq e.on acc.length with h2|h2
     .cases ho2:ops[e.on]? with
      |none=>
       have hlt:acc.length<ops.size:=(x1ro.1 ho0).1
       rw[Array.getElem?_eq_none_iff]at ho2
       omega
      |some o2=>exact hacc e.on o2 h2 ho2 (hX _ _ ho2 hXe) k hk
     .rw[x1q3,x1ru h2]at hk
      simp at hk
theorem befs_in(X:Nat->Prop)(hX:∀i o,ops[i]?=some o->X i->∀k∈x16x o,X k){j:Nat}{o:Oper}(ho:ops[j]?=some o)(hd:∀k∈x16x o,X k):∀k∈(befs ops).getD j [],X k:=
 befs_go X hX ops.toList [] (λi=>by simp) (λj o hj=>by simp at hj) j o ho hd
theorem x1gf:∀(os:List Oper) (acc:List (List Nat)) {j:Nat} {o:Oper},(∀i,ops[acc.length+i]?=os[i]?)->(∀j o,j<acc.length->ops[j]?=some o->∀k∈x16x o,k∈acc.getD j [])->ops[j]?=some o ->
 ∀k∈x16x o,k∈(os.foldl (λacc o=>acc++[(o.after.toList.filter (Region.binds .any)).flatMap λe=>e.on::acc.getD e.on []]) acc).getD j []
 |[],acc,j,o,hos,hacc,ho=>by
  rcases x1pq j acc.length with h|h
  .exact hacc j o h ho
  .have:=hos (j-acc.length)
   rw[show acc.length+(j-acc.length)=j by omega,ho]at this
   simp at this
 |o0::os,acc,j,o,hos,hacc,ho=>by
  have ho0:ops[acc.length]?=some o0:=by have:=hos 0;simpa using this
  refine x1gf os _ (λi=>?_) (λj o hj ho k hk=>?_) ho
  .have:=hos (i+1)
   simp only[x1pn,x1ph,x1qa,x1qo]at this ⊢
   rw[<-this];congr 1;omega
  .simp only[x1pn,x1ph,x1qa]at hj
   rcases x1pq j acc.length with h|h
   .rw[x1q3,x1r7 h,<-x1q3]
    exact hacc j o h ho k hk
   .have e:j=acc.length:=by omega
    subst e
    rw[ho0]at ho;cases ho
    rw[x1q3,x1r8 (x1p6 _)]
    simp only[Nat.sub_self,x1qu,Option.getD_some,x1qe]
    obtain⟨e,he,rfl⟩:=x1q8.1 hk
    exact⟨e,he,x1pp⟩
theorem x1io{j:Nat}{o:Oper}(ho:ops[j]?=some o):∀k∈x16x o,k∈(befs ops).getD j []:=
 x1gf ops.toList [] (λi=>by simp) (λj o hj=>by simp at hj) ho
end
section
variable{P:Program}{pol:Pol}{ops:Array Oper}
def bef(ops:Array Oper)(j i:Nat):Bool:=((befs ops).getD j []).contains i
def left(ops:Array Oper)(listed:Array Bool):List Nat:=(List.range ops.size).filter λi=>!listed.getD i true
theorem x1ip{listed:Array Bool}{i:Nat}(h:i∈Region.ready .any ops listed):i∈left ops listed/\∃o,ops[i]?=some o/\∀k∈x16x o,listed.getD k false=true:=by
 simp only[Region.ready,x1pz,x1p4]at h
 obtain⟨h1,h2,h3⟩:=h
 refine⟨by simp only[left,x1pz];exact⟨h1,h2⟩,?_⟩
 cases ho:ops[i]? with
 |none=>simp[ho]at h3
 |some o=>
  refine⟨o,rfl,λk hk=>?_⟩
  simp only[ho,Option.map_some,Option.getD_some]at h3
  simp only[x16x,x1q8,x1pz]at hk
  obtain⟨e,⟨he,hb⟩,rfl⟩:=hk
  have:=x1sf.1 h3 e (by simpa using he)
  simpa[hb]using this
theorem ready_of{listed:Array Bool}{i:Nat}{o:Oper}(hi:i∈left ops listed)(ho:ops[i]?=some o)(hd:∀k∈x16x o,listed.getD k false=true):i∈Region.ready .any ops listed:=by
 simp only[left,x1pz]at hi
 simp only[Region.ready,x1pz,x1p4]
 refine⟨hi.1,hi.2,?_⟩
 simp only[ho,Option.map_some,Option.getD_some]
 rw[x1sf]
 intro e he
 cases hb:Region.binds .any e with
 |false=>rfl
 |true=>
  have:=hd e.on (by simp only[x16x,x1q8,x1pz];exact⟨e,⟨by simpa using he,hb⟩,rfl⟩)
  simp[this]
theorem x1gg(hlow:∀(j:Nat) (o:Oper),ops[j]?=some o->∀k∈x16x o,k<j):∀(fuel t:Nat) (listed:Array Bool),listed.size=ops.size->(∀(i:Nat) (o:Oper),ops[i]?=some o->listed.getD i false=true->∀k∈x16x o,listed.getD k false=true)->(left ops listed).length<=fuel ->
 Legal (bef ops) (left ops listed) (Region.linearise.go .any ops fuel t listed [])
 |0,t,listed,hs,hcl,hf=>by
  have:left ops listed=[]:=List.length_eq_zero_iff.1 (by omega)
  rw[this]
  simp only[Region.linearise.go,List.reverse_nil]
  exact .nil
 |fuel+1,t,listed,hs,hcl,hf=>by
  simp only[Region.linearise.go]
  change Legal (bef ops) (left ops listed) (match (Region.ready .any ops listed)[t % (Region.ready .any ops listed).length]? with
   |some i=>Region.linearise.go .any ops fuel (t / (Region.ready .any ops listed).length) (listed.setIfInBounds i true) [i]
   |none=>[].reverse)
  cases hi:(Region.ready .any ops listed)[t % (Region.ready .any ops listed).length]? with
  |none=>
   have hnil:Region.ready .any ops listed=[]:=by
    cases hr:Region.ready .any ops listed with
    |nil=>rfl
    |cons x xs=>
     rw[hr]at hi
     have hlt:t % (x::xs).length<(x::xs).length:=x1qs _ (by simp)
     rw[x1pr hlt]at hi
     cases hi
   have hl:left ops listed=[]:=by
    cases hl:left ops listed with
    |nil=>rfl
    |cons m ms=>
     exfalso
     have hm:m∈left ops listed:=by rw[hl];simp
     have hms:m<ops.size:=by simp only[left,x1pz,x1px]at hm;exact hm.1
     have hso:(left ops listed).Pairwise (· < ·):=List.Pairwise.filter _ List.pairwise_lt_range
     have:m∈Region.ready .any ops listed:=ready_of hm (x1pg hms) λk hk=>by
      have hkm:=hlow m _ (x1pg hms) k hk
      cases hlk:listed.getD k false with
      |true=>rfl
      |false=>
       exfalso
       have hk2:k∈left ops listed:=by
        simp only[left,x1pz,x1px]
        refine⟨by omega,?_⟩
        rw[x1qc,x1pg (by omega)]at hlk ⊢
        simpa using hlk
       rw[hl]at hk2 hso
       rcases x1pd.1 hk2 with rfl|hk3
       .omega
       .have:=(x1ry.1 hso).1 k hk3;omega
     rw[hnil]at this
     simp at this
   rw[hl]
   exact .nil
  |some i=>
   simp only
   rw[linearise_go_acc,List.reverse_singleton,x1rz]
   obtain⟨hil,o,ho,hd⟩:=x1ip (x1py hi)
   have hlt:i<ops.size:=(x1ro.1 ho).1
   obtain⟨A,B,hAB⟩:=List.append_of_mem hil
   have hN:(left ops listed).Nodup:=List.Nodup.sublist List.filter_sublist x1se
   have hget:∀(k:Nat) (d:Bool),(listed.setIfInBounds i true).getD k d=if k=i then true else listed.getD k d:=by
    intro k d
    rw[x1qc,x1qc]
    split
    .rename_i e;subst e
     rw[x1rh (by omega)];rfl
    .rename_i e;rw[x1qj (Ne.symm e)]
   have hleft:left ops (listed.setIfInBounds i true)=A++B:=by
    have h1:left ops (listed.setIfInBounds i true)=(left ops listed).filter (λk=>k≠i):=by
     simp only[left,List.filter_filter]
     refine List.filter_congr λk _=>?_
     rw[hget]
     by_cases e:k=i<;>simp[e]
    rw[h1,hAB]
    rw[hAB]at hN
    rw[x1st]at hN
    have hA:A.filter (λk=>k≠i)=A:=x1sw.2 λa ha=>by
     have:=hN.2.2 a ha i (by simp);simpa using this
    have hB:B.filter (λk=>k≠i)=B:=x1sw.2 λa ha=>by
     have:=(x1sd.1 hN.2.1).1
     have:a≠i:=λe=>this (e▸ha)
     simpa using this
    rw[List.filter_append,List.filter_cons_of_neg (by simp),hA,hB]
   rw[hAB]
   refine .cons (λa ha=>?_) ?_
   .have hal:a∈left ops listed:=by rw[hAB];simp at ha ⊢;rcases ha with h|h<;>simp[h]
    cases hb:bef ops i a with
    |false=>rfl
    |true=>
     exfalso
     simp only[bef,List.contains_iff_mem]at hb
     have:=befs_in (ops:=ops) (λk=>listed.getD k false=true) hcl ho hd a hb
     simp only[left,x1pz,x1px]at hal
     rw[x1qc,x1pg (by omega)]at this
     have h2:=hal.2
     rw[x1qc,x1pg (by omega)]at h2
     simp at this h2
     rw[this]at h2;cases h2
   .rw[<-hleft]
    refine x1gg hlow fuel _ _ (by simpa using hs) (λk o' ho' hk j hj=>?_) (by rw[hleft];rw[hAB]at hf;simp at hf ⊢;omega)
    rw[hget]at hk ⊢
    split
    .rfl
    .split at hk
     .rename_i e;subst e;rw[ho]at ho';cases ho';exact hd j hj
     .exact hcl k o' ho' hk j hj
theorem Legal.perm{b:Nat->Nat->Bool}{M L:List Nat}(h:Legal b M L):M.Perm L:=by
 induction h with
 |nil=>exact .nil
 |cons _ _ ih=>exact(List.perm_middle).trans (ih.cons _)
theorem ord_ok(hm:P.follows .mixedOrders=true):OrdOK P pol:=by
 intro call hc c ops s s1 E w tmps hS hT hH hu hU hrun hml hd t
 have hd':∀j,j<ops.size->late P ops j j=true/\(∀k∈(befs ops).getD j [],k<j)/\∀i,i<j->late P ops i j=true/\(bef ops j i=true\/pairOK pol c s.fc s.st.next ops i j s1.sl=true):=by
  intro j hj
  have:=x1p5.1 hd j (x1px.2 hj)
  simp only[x1p4,x1p5,x1px,x1qf,x1pw]at this
  exact⟨this.1.1,this.1.2,this.2⟩
 have hlow:∀(j:Nat) (o:Oper),ops[j]?=some o->∀k∈x16x o,k<j:=λj o ho k hk=>(hd' j (x1ro.1 ho).1).2.1 k (x1io ho k hk)
 have hleft:left ops (Array.replicate ops.size false)=List.range ops.size:=by
  refine x1sw.2 λi hi=>?_
  rw[x1qc,x1sv,x1p0 (x1px.1 hi)];rfl
 have hfalse:∀i,(Array.replicate ops.size false).getD i false=false:=λi=>by
  rw[x1qc,x1sv];split<;>rfl
 have hleg:Legal (bef ops) (List.range ops.size) (Region.schedule (P.follows .mixedOrders) ops t):=by
  have:=x1gg hlow ops.size t (Array.replicate ops.size false) (by simp) (λi o _ h=>by rw[hfalse]at h;cases h) (by rw[hleft];simp)
  rw[hleft]at this
  simpa only[Region.schedule,hm,Bool.true_or,x1pk,Region.linearise]using this
 refine⟨(hleg.perm.nodup_iff).1 x1se,λi hi=>x1px.1 (hleg.perm.mem_iff.2 hi),?_⟩
 refine run_legal hc hleg x1se ⟨E,w,tmps,hS,hT,hH,hu,λid ver hn hi i _=>by have:=hU id ver hn hi;simp only at this;omega⟩ (x1p6 _) rfl ⟨List.pairwise_lt_range,λi hi=>x1px.1 hi,λi hi j hj hij=>?_,λi hi j hj hij hb=>?_,λi _ o ho=>?_⟩ hrun
 .rcases x1pq i j with h|h
  .exact((hd' j (x1px.1 hj)).2.2 i h).1
  .have:i=j:=by omega
   subst this
   exact(hd' i (x1px.1 hi)).1
 .exact((hd' j (x1px.1 hj)).2.2 i hij).2.resolve_left (by rw[hb];simp)
 .simp only[x18r,List.any_eq_false]at hml
  have hmem:o∈ops.toList:=by simpa using x1s8 ho
  simpa using hml o hmem
end
theorem x1iq{P:Program}(hm:P.follows .mixedOrders=true){pol:Pol}(ht:x19l P pol){n:Nat}{f:FuncId}{args:List AV}{vs:Array Value}{w:World}{r:AV}{st':St}(hk:∀w',Ext (λb=>b<w.heap.size) w w'->x18h P w')(hb:x161 P f)(h:x15o P pol n [] f args x170=some (r,st'))(hl:vs.size=args.length)(hV:∀(i:Nat) (a:AV) (v:Value),args[i]?=some a->vs[i]?=some v->V (λb=>b<w.heap.size) w eta0 [] a v) :
 Calls P f vs w λe w'=>∃u,e=.returned u/\(∃(F:Nat->Prop) (η:Eta) (ζ:List Nat),V F w' η ζ r u)/\Ext (λ_=>True) w w':=by
 obtain⟨_,h2⟩:=ixCall_ok ht (ord_ok (pol:=pol) hm) n [] f args x170 r st' h (x190 (λb=>b<w.heap.size) (λw'=>Ext (λb=>b<w.heap.size) w w') w) w vs (x1at (λ_ h=>h) 0 λ_ h=>h) ⟨hl,hV⟩ (x1au hk)
 intro cs
 obtain⟨E',w',u,hAr,s4,s5⟩:=h2 cs
 obtain⟨fr',s1,s2,s3⟩:=hAr.elim (λh=>h.2) λh=>absurd hb h.1
 exact⟨.returned u,w',fr',⟨u,rfl,⟨_,_,_,s4⟩,x1av s5.later⟩,s1,s2,s3⟩
theorem x1ir{P:Program}(hm:P.follows .mixedOrders=true){pol:Pol}(ht:x19l P pol){n:Nat}{f:FuncId}{args:List AV}{vs:Array Value}{w:World}{x:Value}{st':St}(hk:∀w',Ext (λb=>b<w.heap.size) w w'->x18h P w')(hb:x161 P f)(h:x15o P pol n [] f args x170=some (.sc x,st'))(hl:vs.size=args.length)(hV:∀(i:Nat) (a:AV) (v:Value),args[i]?=some a->vs[i]?=some v->V (λb=>b<w.heap.size) w eta0 [] a v) :
 Calls P f vs w λe w'=>e=.returned x/\Ext (λ_=>True) w w':=by
 refine Calls.mono (x1iq hm ht hk hb h hl hV) λe w' ⟨u,he,⟨F,η,ζ,hv⟩,hx⟩=>?_
 rw[V_sc hv]at he
 exact⟨he,hx⟩
end Go.Ix
